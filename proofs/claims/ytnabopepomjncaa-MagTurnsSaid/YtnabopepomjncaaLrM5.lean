/- Joined texts. What each part proves stands ahead of it; no condition. -/
import Derived.Test.YtnabopepomjncaaLrM4
import Derived.KernelRfl

/- trig.Atan2: its runs, against what it computes. -/
namespace Go.Proofs.Ytnabopepomjncaa
open Go.Lr
set_option linter.unusedVariables false
set_option linter.unusedSimpArgs false

/-- A polynomial's value: the coefficients, the highest first (s: so far). -/
def serV (z : Int) : Int → List Int → Int
  | s, [] => s
  | s, k :: l => serV z (faddV [k, mulV z s 30]) l
def serHb (z : Int) : Bool → Int → List Int → Bool
  | h, s, [] => h
  | h, s, k :: l => serHb z (h || mulH z s 30 || faddH [k, mulV z s 30]) (faddV [k, mulV z s 30]) l
def atL : List Int := [51130563, -56512728, 63161284, -71582788, 82595525, -97612893, 119304647, -153391689, 214748365, -357913941, 1073741824]
def mnV (y x : Int) : Int := if fabsV (satV x) < fabsV (satV y) then fabsV (satV x) else fabsV (satV y)
def mxV (y x : Int) : Int := if fabsV (satV x) > fabsV (satV y) then fabsV (satV x) else fabsV (satV y)
def t0V (y x : Int) : Int := divPV (mnV y x) (mxV y x) 30
def ttV (big : Bool) (t0 : Int) : Int := bif big then divPV (wr IntKind.i64 (t0 - 1073741824)) (wr IntKind.i64 (t0 + 1073741824)) 30 else t0
def r0V (big : Bool) (t0 : Int) : Int := wr IntKind.i64 ((bif big then 843314857 else 0) + mulV (ttV big t0) (serV (mulV (ttV big t0) (ttV big t0) 30) (-46684427) atL) 30)
def atanB (big steep xn yn : Bool) (t0 : Int) : Int :=
  bif yn then wr IntKind.i64 (0 - (bif xn then wr IntKind.i64 (3373259426 - (bif steep then wr IntKind.i64 (1686629713 - r0V big t0) else r0V big t0)) else (bif steep then wr IntKind.i64 (1686629713 - r0V big t0) else r0V big t0)))
  else (bif xn then wr IntKind.i64 (3373259426 - (bif steep then wr IntKind.i64 (1686629713 - r0V big t0) else r0V big t0)) else (bif steep then wr IntKind.i64 (1686629713 - r0V big t0) else r0V big t0))
def atanHB (big : Bool) (y x : Int) (h : Bool) : Bool :=
  serHb (mulV (ttV big (t0V y x)) (ttV big (t0V y x)) 30) ((bif big then h || divPH (mnV y x) (mxV y x) 30 || divPH (wr IntKind.i64 (t0V y x - 1073741824)) (wr IntKind.i64 (t0V y x + 1073741824)) 30 else h || divPH (mnV y x) (mxV y x) 30) || mulH (ttV big (t0V y x)) (ttV big (t0V y x)) 30) (-46684427) atL || mulH (ttV big (t0V y x)) (serV (mulV (ttV big (t0V y x)) (ttV big (t0V y x)) 30) (-46684427) atL) 30

theorem atZ (y x : Int) (hb : Bool) : (runF Try.prog S35 Zl 2000 140 [A0, I y, I x] [(0, flag 26 hb)] 1 [some true]).map acc3 = some (I 0, some (flag 26 (hb || satH y || satH x)), [(mxV y x == 0, true)]) := by kernel_rfl
theorem attttt (y x : Int) (hb : Bool) : (runF Try.prog S35 Zl 2000 140 [A0, I y, I x] [(0, flag 26 hb)] 1 [some false, some true, none, none, none, none, none, none, none, none, none, none, none, none, some true, some true, some true]).map acc3 = some (I (atanB true true true true (t0V y x)), some (flag 26 (atanHB true y x (hb || satH y || satH x))), [(decide (satV y < 0), true), (decide (satV x < 0), true), (decide (fabsV (satV y) > fabsV (satV x)), true), (decide (t0V y x > 444758426), true), (mxV y x == 0, false)]) := by kernel_rfl
theorem attttf (y x : Int) (hb : Bool) : (runF Try.prog S35 Zl 2000 140 [A0, I y, I x] [(0, flag 26 hb)] 1 [some false, some true, none, none, none, none, none, none, none, none, none, none, none, none, some true, some true, some false]).map acc3 = some (I (atanB true true true false (t0V y x)), some (flag 26 (atanHB true y x (hb || satH y || satH x))), [(decide (satV y < 0), false), (decide (satV x < 0), true), (decide (fabsV (satV y) > fabsV (satV x)), true), (decide (t0V y x > 444758426), true), (mxV y x == 0, false)]) := by kernel_rfl
theorem atttft (y x : Int) (hb : Bool) : (runF Try.prog S35 Zl 2000 140 [A0, I y, I x] [(0, flag 26 hb)] 1 [some false, some true, none, none, none, none, none, none, none, none, none, none, none, none, some true, some false, some true]).map acc3 = some (I (atanB true true false true (t0V y x)), some (flag 26 (atanHB true y x (hb || satH y || satH x))), [(decide (satV y < 0), true), (decide (satV x < 0), false), (decide (fabsV (satV y) > fabsV (satV x)), true), (decide (t0V y x > 444758426), true), (mxV y x == 0, false)]) := by kernel_rfl
theorem atttff (y x : Int) (hb : Bool) : (runF Try.prog S35 Zl 2000 140 [A0, I y, I x] [(0, flag 26 hb)] 1 [some false, some true, none, none, none, none, none, none, none, none, none, none, none, none, some true, some false, some false]).map acc3 = some (I (atanB true true false false (t0V y x)), some (flag 26 (atanHB true y x (hb || satH y || satH x))), [(decide (satV y < 0), false), (decide (satV x < 0), false), (decide (fabsV (satV y) > fabsV (satV x)), true), (decide (t0V y x > 444758426), true), (mxV y x == 0, false)]) := by kernel_rfl
theorem attftt (y x : Int) (hb : Bool) : (runF Try.prog S35 Zl 2000 140 [A0, I y, I x] [(0, flag 26 hb)] 1 [some false, some true, none, none, none, none, none, none, none, none, none, none, none, none, some false, some true, some true]).map acc3 = some (I (atanB true false true true (t0V y x)), some (flag 26 (atanHB true y x (hb || satH y || satH x))), [(decide (satV y < 0), true), (decide (satV x < 0), true), (decide (fabsV (satV y) > fabsV (satV x)), false), (decide (t0V y x > 444758426), true), (mxV y x == 0, false)]) := by kernel_rfl
theorem attftf (y x : Int) (hb : Bool) : (runF Try.prog S35 Zl 2000 140 [A0, I y, I x] [(0, flag 26 hb)] 1 [some false, some true, none, none, none, none, none, none, none, none, none, none, none, none, some false, some true, some false]).map acc3 = some (I (atanB true false true false (t0V y x)), some (flag 26 (atanHB true y x (hb || satH y || satH x))), [(decide (satV y < 0), false), (decide (satV x < 0), true), (decide (fabsV (satV y) > fabsV (satV x)), false), (decide (t0V y x > 444758426), true), (mxV y x == 0, false)]) := by kernel_rfl
theorem attfft (y x : Int) (hb : Bool) : (runF Try.prog S35 Zl 2000 140 [A0, I y, I x] [(0, flag 26 hb)] 1 [some false, some true, none, none, none, none, none, none, none, none, none, none, none, none, some false, some false, some true]).map acc3 = some (I (atanB true false false true (t0V y x)), some (flag 26 (atanHB true y x (hb || satH y || satH x))), [(decide (satV y < 0), true), (decide (satV x < 0), false), (decide (fabsV (satV y) > fabsV (satV x)), false), (decide (t0V y x > 444758426), true), (mxV y x == 0, false)]) := by kernel_rfl
theorem attfff (y x : Int) (hb : Bool) : (runF Try.prog S35 Zl 2000 140 [A0, I y, I x] [(0, flag 26 hb)] 1 [some false, some true, none, none, none, none, none, none, none, none, none, none, none, none, some false, some false, some false]).map acc3 = some (I (atanB true false false false (t0V y x)), some (flag 26 (atanHB true y x (hb || satH y || satH x))), [(decide (satV y < 0), false), (decide (satV x < 0), false), (decide (fabsV (satV y) > fabsV (satV x)), false), (decide (t0V y x > 444758426), true), (mxV y x == 0, false)]) := by kernel_rfl
theorem atfttt (y x : Int) (hb : Bool) : (runF Try.prog S35 Zl 2000 140 [A0, I y, I x] [(0, flag 26 hb)] 1 [some false, some false, none, none, none, none, none, none, none, none, none, none, none, none, some true, some true, some true]).map acc3 = some (I (atanB false true true true (t0V y x)), some (flag 26 (atanHB false y x (hb || satH y || satH x))), [(decide (satV y < 0), true), (decide (satV x < 0), true), (decide (fabsV (satV y) > fabsV (satV x)), true), (decide (t0V y x > 444758426), false), (mxV y x == 0, false)]) := by kernel_rfl
theorem atfttf (y x : Int) (hb : Bool) : (runF Try.prog S35 Zl 2000 140 [A0, I y, I x] [(0, flag 26 hb)] 1 [some false, some false, none, none, none, none, none, none, none, none, none, none, none, none, some true, some true, some false]).map acc3 = some (I (atanB false true true false (t0V y x)), some (flag 26 (atanHB false y x (hb || satH y || satH x))), [(decide (satV y < 0), false), (decide (satV x < 0), true), (decide (fabsV (satV y) > fabsV (satV x)), true), (decide (t0V y x > 444758426), false), (mxV y x == 0, false)]) := by kernel_rfl
theorem atftft (y x : Int) (hb : Bool) : (runF Try.prog S35 Zl 2000 140 [A0, I y, I x] [(0, flag 26 hb)] 1 [some false, some false, none, none, none, none, none, none, none, none, none, none, none, none, some true, some false, some true]).map acc3 = some (I (atanB false true false true (t0V y x)), some (flag 26 (atanHB false y x (hb || satH y || satH x))), [(decide (satV y < 0), true), (decide (satV x < 0), false), (decide (fabsV (satV y) > fabsV (satV x)), true), (decide (t0V y x > 444758426), false), (mxV y x == 0, false)]) := by kernel_rfl
theorem atftff (y x : Int) (hb : Bool) : (runF Try.prog S35 Zl 2000 140 [A0, I y, I x] [(0, flag 26 hb)] 1 [some false, some false, none, none, none, none, none, none, none, none, none, none, none, none, some true, some false, some false]).map acc3 = some (I (atanB false true false false (t0V y x)), some (flag 26 (atanHB false y x (hb || satH y || satH x))), [(decide (satV y < 0), false), (decide (satV x < 0), false), (decide (fabsV (satV y) > fabsV (satV x)), true), (decide (t0V y x > 444758426), false), (mxV y x == 0, false)]) := by kernel_rfl
theorem atfftt (y x : Int) (hb : Bool) : (runF Try.prog S35 Zl 2000 140 [A0, I y, I x] [(0, flag 26 hb)] 1 [some false, some false, none, none, none, none, none, none, none, none, none, none, none, none, some false, some true, some true]).map acc3 = some (I (atanB false false true true (t0V y x)), some (flag 26 (atanHB false y x (hb || satH y || satH x))), [(decide (satV y < 0), true), (decide (satV x < 0), true), (decide (fabsV (satV y) > fabsV (satV x)), false), (decide (t0V y x > 444758426), false), (mxV y x == 0, false)]) := by kernel_rfl
theorem atfftf (y x : Int) (hb : Bool) : (runF Try.prog S35 Zl 2000 140 [A0, I y, I x] [(0, flag 26 hb)] 1 [some false, some false, none, none, none, none, none, none, none, none, none, none, none, none, some false, some true, some false]).map acc3 = some (I (atanB false false true false (t0V y x)), some (flag 26 (atanHB false y x (hb || satH y || satH x))), [(decide (satV y < 0), false), (decide (satV x < 0), true), (decide (fabsV (satV y) > fabsV (satV x)), false), (decide (t0V y x > 444758426), false), (mxV y x == 0, false)]) := by kernel_rfl
theorem atffft (y x : Int) (hb : Bool) : (runF Try.prog S35 Zl 2000 140 [A0, I y, I x] [(0, flag 26 hb)] 1 [some false, some false, none, none, none, none, none, none, none, none, none, none, none, none, some false, some false, some true]).map acc3 = some (I (atanB false false false true (t0V y x)), some (flag 26 (atanHB false y x (hb || satH y || satH x))), [(decide (satV y < 0), true), (decide (satV x < 0), false), (decide (fabsV (satV y) > fabsV (satV x)), false), (decide (t0V y x > 444758426), false), (mxV y x == 0, false)]) := by kernel_rfl
theorem atffff (y x : Int) (hb : Bool) : (runF Try.prog S35 Zl 2000 140 [A0, I y, I x] [(0, flag 26 hb)] 1 [some false, some false, none, none, none, none, none, none, none, none, none, none, none, none, some false, some false, some false]).map acc3 = some (I (atanB false false false false (t0V y x)), some (flag 26 (atanHB false y x (hb || satH y || satH x))), [(decide (satV y < 0), false), (decide (satV x < 0), false), (decide (fabsV (satV y) > fabsV (satV x)), false), (decide (t0V y x > 444758426), false), (mxV y x == 0, false)]) := by kernel_rfl

/-- The angle of a point. -/
def atanV (y x : Int) : Int := bif mxV y x == 0 then 0 else atanB (decide (t0V y x > 444758426)) (decide (fabsV (satV y) > fabsV (satV x))) (decide (satV x < 0)) (decide (satV y < 0)) (t0V y x)
def atanH (y x : Int) (h : Bool) : Bool := bif mxV y x == 0 then h || satH y || satH x else atanHB (decide (t0V y x > 444758426)) y x (h || satH y || satH x)
def atanS : List LV → Bool → Option (LV × Bool × List (Bool × Bool))
  | [.v (.one (.int .i64 y)), .v (.one (.int .i64 x))], hb => some (I (atanV y x), atanH y x hb, [])
  | _, _ => none
theorem sumAtan : SumOK Try.prog 140 (accSum 26 atanS) := by
  refine accSum_run (z := Zl) sound35 (own_of sound35 Try.func140 (by kernel_rfl)) fun args hb v h' cs hF hc => ?_
  unfold atanS at hF
  split at hF
  · rename_i y x
    cases hF
    refine ⟨rfl, ?_⟩
    unfold atanV atanH
    rcases bool_cases (mxV y x == 0) with h0 | h0
    · rw [cond_t h0, cond_t h0]
      exact ⟨2000, [some true], _, atZ y x hb, ae_cons h0 ae_nil⟩
    · rw [cond_f h0, cond_f h0]
      rcases bool_cases (decide (t0V y x > 444758426)) with h1 | h1
      · rcases bool_cases (decide (fabsV (satV y) > fabsV (satV x))) with h2 | h2
        · rcases bool_cases (decide (satV x < 0)) with h3 | h3
          · rcases bool_cases (decide (satV y < 0)) with h4 | h4
            · rw [h1, h2, h3, h4]
              exact ⟨2000, _, _, attttt y x hb, ae_cons h4 (ae_cons h3 (ae_cons h2 (ae_cons h1 (ae_cons h0 ae_nil))))⟩
            · rw [h1, h2, h3, h4]
              exact ⟨2000, _, _, attttf y x hb, ae_cons h4 (ae_cons h3 (ae_cons h2 (ae_cons h1 (ae_cons h0 ae_nil))))⟩
          · rcases bool_cases (decide (satV y < 0)) with h4 | h4
            · rw [h1, h2, h3, h4]
              exact ⟨2000, _, _, atttft y x hb, ae_cons h4 (ae_cons h3 (ae_cons h2 (ae_cons h1 (ae_cons h0 ae_nil))))⟩
            · rw [h1, h2, h3, h4]
              exact ⟨2000, _, _, atttff y x hb, ae_cons h4 (ae_cons h3 (ae_cons h2 (ae_cons h1 (ae_cons h0 ae_nil))))⟩
        · rcases bool_cases (decide (satV x < 0)) with h3 | h3
          · rcases bool_cases (decide (satV y < 0)) with h4 | h4
            · rw [h1, h2, h3, h4]
              exact ⟨2000, _, _, attftt y x hb, ae_cons h4 (ae_cons h3 (ae_cons h2 (ae_cons h1 (ae_cons h0 ae_nil))))⟩
            · rw [h1, h2, h3, h4]
              exact ⟨2000, _, _, attftf y x hb, ae_cons h4 (ae_cons h3 (ae_cons h2 (ae_cons h1 (ae_cons h0 ae_nil))))⟩
          · rcases bool_cases (decide (satV y < 0)) with h4 | h4
            · rw [h1, h2, h3, h4]
              exact ⟨2000, _, _, attfft y x hb, ae_cons h4 (ae_cons h3 (ae_cons h2 (ae_cons h1 (ae_cons h0 ae_nil))))⟩
            · rw [h1, h2, h3, h4]
              exact ⟨2000, _, _, attfff y x hb, ae_cons h4 (ae_cons h3 (ae_cons h2 (ae_cons h1 (ae_cons h0 ae_nil))))⟩
      · rcases bool_cases (decide (fabsV (satV y) > fabsV (satV x))) with h2 | h2
        · rcases bool_cases (decide (satV x < 0)) with h3 | h3
          · rcases bool_cases (decide (satV y < 0)) with h4 | h4
            · rw [h1, h2, h3, h4]
              exact ⟨2000, _, _, atfttt y x hb, ae_cons h4 (ae_cons h3 (ae_cons h2 (ae_cons h1 (ae_cons h0 ae_nil))))⟩
            · rw [h1, h2, h3, h4]
              exact ⟨2000, _, _, atfttf y x hb, ae_cons h4 (ae_cons h3 (ae_cons h2 (ae_cons h1 (ae_cons h0 ae_nil))))⟩
          · rcases bool_cases (decide (satV y < 0)) with h4 | h4
            · rw [h1, h2, h3, h4]
              exact ⟨2000, _, _, atftft y x hb, ae_cons h4 (ae_cons h3 (ae_cons h2 (ae_cons h1 (ae_cons h0 ae_nil))))⟩
            · rw [h1, h2, h3, h4]
              exact ⟨2000, _, _, atftff y x hb, ae_cons h4 (ae_cons h3 (ae_cons h2 (ae_cons h1 (ae_cons h0 ae_nil))))⟩
        · rcases bool_cases (decide (satV x < 0)) with h3 | h3
          · rcases bool_cases (decide (satV y < 0)) with h4 | h4
            · rw [h1, h2, h3, h4]
              exact ⟨2000, _, _, atfftt y x hb, ae_cons h4 (ae_cons h3 (ae_cons h2 (ae_cons h1 (ae_cons h0 ae_nil))))⟩
            · rw [h1, h2, h3, h4]
              exact ⟨2000, _, _, atfftf y x hb, ae_cons h4 (ae_cons h3 (ae_cons h2 (ae_cons h1 (ae_cons h0 ae_nil))))⟩
          · rcases bool_cases (decide (satV y < 0)) with h4 | h4
            · rw [h1, h2, h3, h4]
              exact ⟨2000, _, _, atffft y x hb, ae_cons h4 (ae_cons h3 (ae_cons h2 (ae_cons h1 (ae_cons h0 ae_nil))))⟩
            · rw [h1, h2, h3, h4]
              exact ⟨2000, _, _, atffff y x hb, ae_cons h4 (ae_cons h3 (ae_cons h2 (ae_cons h1 (ae_cons h0 ae_nil))))⟩
  · cases hF
noncomputable def S36 : FuncId → Option SumK := more S35 140 (accSum 26 atanS)
theorem sound36 : Sound Try.prog S36 := sound35.more sumAtan
end Go.Proofs.Ytnabopepomjncaa

/- The law folder's awake, of chapter 4: its run. -/
namespace Go.Proofs.Ytnabopepomjncaa
open Go.Lr
noncomputable def S26 : FuncId → Option SumK := S25
theorem sound26 : Sound Try.prog S26 := sound25
end Go.Proofs.Ytnabopepomjncaa

/- What the laws of chapter 4 call: the awake, a number without its sign. -/
namespace Go.Proofs.Ytnabopepomjncaa
open Go.Lr
set_option linter.unusedVariables false
def labsV (a : Int) : Int := bif decide (a < 0) then wr IntKind.i64 (0 - a) else a
def labsS : List LV → Option (LV × List (Bool × Bool))
  | [.v (.one (.int .i64 a))] => some (I (labsV a), [])
  | _ => none
noncomputable def S37 : FuncId → Option SumK := S36
theorem sound37 : Sound Try.prog S37 := sound36
end Go.Proofs.Ytnabopepomjncaa

/- Sines, and the second answer's sines and angles: their runs, against what they compute. -/
namespace Go.Proofs.Ytnabopepomjncaa
open Go.Lr
set_option linter.unusedVariables false
set_option linter.unusedSimpArgs false

def sL1 : List Int := [2959, -213044, 8947849, -178956971, 1073741824]
def sL2 : List Int := [-296, 26631, -1491308, 44739243, -536870912, 1073741824]
def mmV (s : Int) : Int := if (1073741824 : Int) < (if (-1073741824 : Int) > s then -1073741824 else s) then 1073741824 else (if (-1073741824 : Int) > s then -1073741824 else s)
/-- The angle, folded to the right. -/
def sinW (b1 b2 : Bool) (a : Int) : Int := bif b1 then wr IntKind.i64 (3373259426 - wrapV (satV a)) else bif b2 then wr IntKind.i64 (-3373259426 - wrapV (satV a)) else wrapV (satV a)
def sinX (w : Int) : Int := wr IntKind.i64 (1686629713 - fabsV w)
def sinS0 (w : Int) : Int := mulV w (serV (mulV w w 30) (-27) sL1) 30
def sinSH (w : Int) (h : Bool) : Bool := serHb (mulV w w 30) (h || mulH w w 30) (-27) sL1 || mulH w (serV (mulV w w 30) (-27) sL1) 30
def sinG0 (ng : Bool) (x : Int) : Int := bif ng then wr IntKind.i64 (0 - serV (mulV x x 30) 2 sL2) else serV (mulV x x 30) 2 sL2
def sinGH (x : Int) (h : Bool) : Bool := serHb (mulV x x 30) (h || mulH x x 30) 2 sL2
/-- Without its sign, as the second answer reckons it. -/
def sinU (ng : Bool) (w : Int) : Int := bif ng then wr IntKind.i64 (0 - w) else w
def clO (s : Int) : Int := clampV s (-1073741824) 1073741824
theorem sntfs (a : Int) (hb : Bool) : (runF Try.prog S36 Zl 2000 104 [A0, I a] [(0, flag 26 hb)] 1 [some true, some true, none, none, none, none, none, none, none]).map acc3 = some (I (mmV (sinS0 (sinW true false a))), some (flag 26 (sinSH (sinW true false a) (hb || satH a))), [(decide (fabsV (sinW true false a) ≤ 843314857), true), (decide (wrapV (satV a) > 1686629713), true)]) := by kernel_rfl
theorem sntfgt (a : Int) (hb : Bool) : (runF Try.prog S36 Zl 2000 104 [A0, I a] [(0, flag 26 hb)] 1 [some true, some false, none, none, none, none, none, none, none, some true]).map acc3 = some (I (mmV (sinG0 true (sinX (sinW true false a)))), some (flag 26 (sinGH (sinX (sinW true false a)) (hb || satH a))), [(decide ((sinW true false a) < 0), true), (decide (fabsV (sinW true false a) ≤ 843314857), false), (decide (wrapV (satV a) > 1686629713), true)]) := by kernel_rfl
theorem sntfgf (a : Int) (hb : Bool) : (runF Try.prog S36 Zl 2000 104 [A0, I a] [(0, flag 26 hb)] 1 [some true, some false, none, none, none, none, none, none, none, some false]).map acc3 = some (I (mmV (sinG0 false (sinX (sinW true false a)))), some (flag 26 (sinGH (sinX (sinW true false a)) (hb || satH a))), [(decide ((sinW true false a) < 0), false), (decide (fabsV (sinW true false a) ≤ 843314857), false), (decide (wrapV (satV a) > 1686629713), true)]) := by kernel_rfl
theorem snfts (a : Int) (hb : Bool) : (runF Try.prog S36 Zl 2000 104 [A0, I a] [(0, flag 26 hb)] 1 [some false, some true, some true, none, none, none, none, none, none, none]).map acc3 = some (I (mmV (sinS0 (sinW false true a))), some (flag 26 (sinSH (sinW false true a) (hb || satH a))), [(decide (fabsV (sinW false true a) ≤ 843314857), true), (decide (wrapV (satV a) < -1686629713), true), (decide (wrapV (satV a) > 1686629713), false)]) := by kernel_rfl
theorem snftgt (a : Int) (hb : Bool) : (runF Try.prog S36 Zl 2000 104 [A0, I a] [(0, flag 26 hb)] 1 [some false, some true, some false, none, none, none, none, none, none, none, some true]).map acc3 = some (I (mmV (sinG0 true (sinX (sinW false true a)))), some (flag 26 (sinGH (sinX (sinW false true a)) (hb || satH a))), [(decide ((sinW false true a) < 0), true), (decide (fabsV (sinW false true a) ≤ 843314857), false), (decide (wrapV (satV a) < -1686629713), true), (decide (wrapV (satV a) > 1686629713), false)]) := by kernel_rfl
theorem snftgf (a : Int) (hb : Bool) : (runF Try.prog S36 Zl 2000 104 [A0, I a] [(0, flag 26 hb)] 1 [some false, some true, some false, none, none, none, none, none, none, none, some false]).map acc3 = some (I (mmV (sinG0 false (sinX (sinW false true a)))), some (flag 26 (sinGH (sinX (sinW false true a)) (hb || satH a))), [(decide ((sinW false true a) < 0), false), (decide (fabsV (sinW false true a) ≤ 843314857), false), (decide (wrapV (satV a) < -1686629713), true), (decide (wrapV (satV a) > 1686629713), false)]) := by kernel_rfl
theorem snffs (a : Int) (hb : Bool) : (runF Try.prog S36 Zl 2000 104 [A0, I a] [(0, flag 26 hb)] 1 [some false, some false, some true, none, none, none, none, none, none, none]).map acc3 = some (I (mmV (sinS0 (sinW false false a))), some (flag 26 (sinSH (sinW false false a) (hb || satH a))), [(decide (fabsV (sinW false false a) ≤ 843314857), true), (decide (wrapV (satV a) < -1686629713), false), (decide (wrapV (satV a) > 1686629713), false)]) := by kernel_rfl
theorem snffgt (a : Int) (hb : Bool) : (runF Try.prog S36 Zl 2000 104 [A0, I a] [(0, flag 26 hb)] 1 [some false, some false, some false, none, none, none, none, none, none, none, some true]).map acc3 = some (I (mmV (sinG0 true (sinX (sinW false false a)))), some (flag 26 (sinGH (sinX (sinW false false a)) (hb || satH a))), [(decide ((sinW false false a) < 0), true), (decide (fabsV (sinW false false a) ≤ 843314857), false), (decide (wrapV (satV a) < -1686629713), false), (decide (wrapV (satV a) > 1686629713), false)]) := by kernel_rfl
theorem snffgf (a : Int) (hb : Bool) : (runF Try.prog S36 Zl 2000 104 [A0, I a] [(0, flag 26 hb)] 1 [some false, some false, some false, none, none, none, none, none, none, none, some false]).map acc3 = some (I (mmV (sinG0 false (sinX (sinW false false a)))), some (flag 26 (sinGH (sinX (sinW false false a)) (hb || satH a))), [(decide ((sinW false false a) < 0), false), (decide (fabsV (sinW false false a) ≤ 843314857), false), (decide (wrapV (satV a) < -1686629713), false), (decide (wrapV (satV a) > 1686629713), false)]) := by kernel_rfl
/-- The sine. -/
def sinF (w : Int) : Int := bif decide (fabsV w ≤ 843314857) then mmV (sinS0 w) else mmV (sinG0 (decide (w < 0)) (sinX w))
def sinFH (w : Int) (h : Bool) : Bool := bif decide (fabsV w ≤ 843314857) then sinSH w h else sinGH (sinX w) h
def sinV (a : Int) : Int := sinF (sinW (decide (wrapV (satV a) > 1686629713)) (decide (wrapV (satV a) < -1686629713)) a)
def sinH (a : Int) (h : Bool) : Bool := sinFH (sinW (decide (wrapV (satV a) > 1686629713)) (decide (wrapV (satV a) < -1686629713)) a) (h || satH a)
def sinS : List LV → Bool → Option (LV × Bool × List (Bool × Bool))
  | [.v (.one (.int .i64 a))], hb => some (I (sinV a), sinH a hb, [])
  | _, _ => none
theorem sumSin : SumOK Try.prog 104 (accSum 26 sinS) := by
  refine accSum_run (z := Zl) sound36 (own_of sound36 Try.func104 (by kernel_rfl)) fun args hb v h' cs hF hc => ?_
  unfold sinS at hF
  split at hF
  · rename_i a
    cases hF
    refine ⟨rfl, ?_⟩
    unfold sinV sinH
    have eT : ∀ b : Bool, sinW true b a = sinW true false a := fun b => rfl
    rcases bool_cases (decide (wrapV (satV a) > 1686629713)) with h1 | h1
    · rw [h1, eT]
      rcases bool_cases (decide (fabsV (sinW true false a) ≤ 843314857)) with h3 | h3
      · unfold sinF sinFH; rw [cond_t h3, cond_t h3]; exact ⟨2000, _, _, sntfs a hb, ae_cons h3 (ae_cons h1 ae_nil)⟩
      · unfold sinF sinFH; rw [cond_f h3, cond_f h3]
        rcases bool_cases (decide ((sinW true false a) < 0)) with h4 | h4
        · rw [h4]; exact ⟨2000, _, _, sntfgt a hb, ae_cons h4 (ae_cons h3 (ae_cons h1 ae_nil))⟩
        · rw [h4]; exact ⟨2000, _, _, sntfgf a hb, ae_cons h4 (ae_cons h3 (ae_cons h1 ae_nil))⟩
    · rw [h1]
      rcases bool_cases (decide (wrapV (satV a) < -1686629713)) with h2 | h2
      · rw [h2]
        rcases bool_cases (decide (fabsV (sinW false true a) ≤ 843314857)) with h3 | h3
        · unfold sinF sinFH; rw [cond_t h3, cond_t h3]; exact ⟨2000, _, _, snfts a hb, ae_cons h3 (ae_cons h2 (ae_cons h1 ae_nil))⟩
        · unfold sinF sinFH; rw [cond_f h3, cond_f h3]
          rcases bool_cases (decide ((sinW false true a) < 0)) with h4 | h4
          · rw [h4]; exact ⟨2000, _, _, snftgt a hb, ae_cons h4 (ae_cons h3 (ae_cons h2 (ae_cons h1 ae_nil)))⟩
          · rw [h4]; exact ⟨2000, _, _, snftgf a hb, ae_cons h4 (ae_cons h3 (ae_cons h2 (ae_cons h1 ae_nil)))⟩
      · rw [h2]
        rcases bool_cases (decide (fabsV (sinW false false a) ≤ 843314857)) with h3 | h3
        · unfold sinF sinFH; rw [cond_t h3, cond_t h3]; exact ⟨2000, _, _, snffs a hb, ae_cons h3 (ae_cons h2 (ae_cons h1 ae_nil))⟩
        · unfold sinF sinFH; rw [cond_f h3, cond_f h3]
          rcases bool_cases (decide ((sinW false false a) < 0)) with h4 | h4
          · rw [h4]; exact ⟨2000, _, _, snffgt a hb, ae_cons h4 (ae_cons h3 (ae_cons h2 (ae_cons h1 ae_nil)))⟩
          · rw [h4]; exact ⟨2000, _, _, snffgf a hb, ae_cons h4 (ae_cons h3 (ae_cons h2 (ae_cons h1 ae_nil)))⟩
  · cases hF

def rsinF (w : Int) : Int := bif decide (sinU (decide (w < 0)) w > 843314857) then clO (sinG0 (decide (w < 0)) (wr IntKind.i64 (1686629713 - sinU (decide (w < 0)) w))) else clO (sinS0 w)
def rsinFH (w : Int) (h : Bool) : Bool := bif decide (sinU (decide (w < 0)) w > 843314857) then sinGH (wr IntKind.i64 (1686629713 - sinU (decide (w < 0)) w)) h else sinSH w h
def rsinS : List LV → Bool → Option (LV × Bool × List (Bool × Bool))
  | [.v (.one (.int .i64 a))], hb => some (I (rsinF (sinW (decide (wrapV (satV a) > 1686629713)) (decide (wrapV (satV a) < -1686629713)) a)), rsinFH (sinW (decide (wrapV (satV a) > 1686629713)) (decide (wrapV (satV a) < -1686629713)) a) (hb || satH a), [])
  | _, _ => none
theorem clO_mm (s : Int) : clO s = mmV s := by
  unfold clO clampV mmV; (repeat' split) <;> omega
theorem sinU_eq {w : Int} (h0 : -6746518852 ≤ w) (h1 : w ≤ 6746518852) : sinU (decide (w < 0)) w = fabsV w := by
  unfold sinU
  by_cases h : w < 0
  · rw [decide_eq_true h, cond_true, wr_i, w64_in (by omega) (by omega)]
    unfold fabsV; (repeat' split) <;> omega
  · rw [decide_eq_false h, cond_false]
    unfold fabsV; (repeat' split) <;> omega
theorem sinW_bd (b1 b2 : Bool) (a : Int) : -6746518852 ≤ sinW b1 b2 a ∧ sinW b1 b2 a ≤ 6746518852 := by
  obtain ⟨h0, h1, -⟩ := wrap_spec (satV a)
  unfold sinW
  generalize wrapV (satV a) = t at *
  have e1 : wr IntKind.i64 (3373259426 - t) = 3373259426 - t := w64_in (by omega) (by omega)
  have e2 : wr IntKind.i64 (-3373259426 - t) = -3373259426 - t := w64_in (by omega) (by omega)
  rw [e1, e2]
  cases b1 <;> cases b2 <;> simp only [cond_true, cond_false] <;> omega
theorem rsin_eq {w : Int} (h0 : -6746518852 ≤ w) (h1 : w ≤ 6746518852) (h : Bool) : rsinF w = sinF w ∧ rsinFH w h = sinFH w h := by
  unfold rsinF rsinFH sinF sinFH sinX
  rw [sinU_eq h0 h1, clO_mm, clO_mm]
  by_cases hb : fabsV w ≤ 843314857
  · rw [decide_eq_true hb, decide_eq_false (show ¬ fabsV w > 843314857 by omega)]; exact ⟨rfl, rfl⟩
  · rw [decide_eq_false hb, decide_eq_true (show fabsV w > 843314857 by omega)]; exact ⟨rfl, rfl⟩
def atanHG (big : Bool) (v u : Int) (h : Bool) : Bool :=
  serHb (mulV (ttV big (divPV v u 30)) (ttV big (divPV v u 30)) 30) ((bif big then h || divPH v u 30 || divPH (wr IntKind.i64 (divPV v u 30 - 1073741824)) (wr IntKind.i64 (divPV v u 30 + 1073741824)) 30 else h || divPH v u 30) || mulH (ttV big (divPV v u 30)) (ttV big (divPV v u 30)) 30) (-46684427) atL || mulH (ttV big (divPV v u 30)) (serV (mulV (ttV big (divPV v u 30)) (ttV big (divPV v u 30)) 30) (-46684427) atL) 30
def ratV (v u y x : Int) (s : Bool) : Int := bif u == 0 then 0 else atanB (decide (divPV v u 30 > 444758426)) s (decide (satV x < 0)) (decide (satV y < 0)) (divPV v u 30)
def ratH (v u : Int) (h : Bool) : Bool := bif u == 0 then h else atanHG (decide (divPV v u 30 > 444758426)) v u h
def ratanS : List LV → Bool → Option (LV × Bool × List (Bool × Bool))
  | [.v (.one (.int .i64 y)), .v (.one (.int .i64 x))], hb => bif decide (fabsV (satV y) > fabsV (satV x)) then some (I (ratV (fabsV (satV x)) (fabsV (satV y)) y x true), ratH (fabsV (satV x)) (fabsV (satV y)) (hb || satH y || satH x), []) else some (I (ratV (fabsV (satV y)) (fabsV (satV x)) y x false), ratH (fabsV (satV y)) (fabsV (satV x)) (hb || satH y || satH x), [])
  | _, _ => none
noncomputable def S38 : FuncId → Option SumK := more S36 104 (accSum 26 sinS)
theorem sound38 : Sound Try.prog S38 := sound36.more sumSin

/-- The cosine; the angle of a sine. -/
def cosV (a : Int) : Int := sinV (wr IntKind.i64 (1686629713 + wrapV a))
def cosH (a : Int) (h : Bool) : Bool := sinH (wr IntKind.i64 (1686629713 + wrapV a)) h
def asinV (a : Int) : Int := atanV (clO a) (sqrtV (wr IntKind.i64 (1073741824 - mulV (clO a) (clO a) 30)))
def asinH (a : Int) (h : Bool) : Bool := atanH (clO a) (sqrtV (wr IntKind.i64 (1073741824 - mulV (clO a) (clO a) 30))) (h || clampH a (-1073741824) 1073741824 || mulH (clO a) (clO a) 30 || sqrtH (wr IntKind.i64 (1073741824 - mulV (clO a) (clO a) 30)))
def cosS : List LV → Bool → Option (LV × Bool × List (Bool × Bool))
  | [.v (.one (.int .i64 a))], hb => some (I (cosV a), cosH a hb, [])
  | _, _ => none
def asinS : List LV → Bool → Option (LV × Bool × List (Bool × Bool))
  | [.v (.one (.int .i64 a))], hb => some (I (asinV a), asinH a hb, [])
  | _, _ => none
theorem runCos (a : Int) (hb : Bool) (ty : TypeId) (ht : ty = 26) : (runF Try.prog S38 Zl 2000 103 [A0, I a] [(0, flag ty hb)] 1 []).map acc3 = some (I (cosV a), some (flag ty (cosH a hb)), []) := by subst ht; kernel_rfl
theorem sumCos : SumOK Try.prog 103 (accSum 26 cosS) := by
  refine accSum_run (z := Zl) sound38 (own_of sound38 Try.func103 (by kernel_rfl)) fun args hb v h' cs hF hc => ?_
  unfold cosS at hF
  split at hF
  · rename_i a
    cases hF
    exact ⟨rfl, 2000, _, _, runCos a hb _ rfl, ae_nil⟩
  · cases hF
noncomputable def S39 : FuncId → Option SumK := more S38 103 (accSum 26 cosS)
theorem sound39 : Sound Try.prog S39 := sound38.more sumCos
end Go.Proofs.Ytnabopepomjncaa

/- Quaternions in both answers: their runs, against what they compute. -/
namespace Go.Proofs.Ytnabopepomjncaa
open Go.Lr
set_option linter.unusedVariables false
set_option linter.unusedSimpArgs false

theorem qsameR1 (a0 a1 a2 a3 b0 b1 b2 b3 : Int) : (runF Try.prog S34 Zl 2000 74 [.v (.agg [.int .i64 a0, .int .i64 a1, .int .i64 a2, .int .i64 a3]), .v (.agg [.int .i64 b0, .int .i64 b1, .int .i64 b2, .int .i64 b3])] [] 0 [none, none, none, none, none, none, none, none, none, none, some true, some true, some true, some true, some true, none, some true, some true, some true, some true, some true, some true, some true, some true, some true, some true, some true, some true, some true, some true, none, some true, some true, some true, some true, some true, some true, some true, some true, some true, some true, some true, some true, some true, some true, none, some true, some true, some true, some true, some true, some true, some true, some true, some true, some true, some true, some true, some true, some true, none, some true, some true]).map (fun r => (r.1, r.2.2.2)) = some (LV.v (V1.one (At.bool true)), [(a0 == b0 && (a1 == b1 && (a2 == b2 && (a3 == b3 && true))), true), (a0 == b0 && (a1 == b1 && (a2 == b2 && (a3 == b3 && true))), true), (a3 == wr IntKind.i64 (0 - b3), true), (a3 == wr IntKind.i64 (0 - b3), true), (a3 == wr IntKind.i64 (0 - b3), true), (a3 == wr IntKind.i64 (0 - b3), true), (a3 == wr IntKind.i64 (0 - b3), true), (a2 != -9223372036854775808, true), (a2 != -9223372036854775808, true), (a2 != -9223372036854775808, true), (a2 != -9223372036854775808, true), (a2 != -9223372036854775808, true), (a2 != -9223372036854775808, true), (a2 != -9223372036854775808, true), (a2 != -9223372036854775808, true), (a2 != -9223372036854775808, true), (a2 == wr IntKind.i64 (0 - b2), true), (a2 == wr IntKind.i64 (0 - b2), true), (a2 == wr IntKind.i64 (0 - b2), true), (a2 == wr IntKind.i64 (0 - b2), true), (a2 == wr IntKind.i64 (0 - b2), true), (a1 != -9223372036854775808, true), (a1 != -9223372036854775808, true), (a1 != -9223372036854775808, true), (a1 != -9223372036854775808, true), (a1 != -9223372036854775808, true), (a1 != -9223372036854775808, true), (a1 != -9223372036854775808, true), (a1 != -9223372036854775808, true), (a1 != -9223372036854775808, true), (a1 == wr IntKind.i64 (0 - b1), true), (a1 == wr IntKind.i64 (0 - b1), true), (a1 == wr IntKind.i64 (0 - b1), true), (a1 == wr IntKind.i64 (0 - b1), true), (a1 == wr IntKind.i64 (0 - b1), true), (a0 != -9223372036854775808, true), (a0 != -9223372036854775808, true), (a0 != -9223372036854775808, true), (a0 != -9223372036854775808, true), (a0 != -9223372036854775808, true), (a0 != -9223372036854775808, true), (a0 != -9223372036854775808, true), (a0 != -9223372036854775808, true), (a0 != -9223372036854775808, true), (a0 == wr IntKind.i64 (0 - b0), true), (a0 == wr IntKind.i64 (0 - b0), true), (a0 == wr IntKind.i64 (0 - b0), true), (a0 == wr IntKind.i64 (0 - b0), true), (a0 == wr IntKind.i64 (0 - b0), true)]) := by kernel_rfl
theorem qsameR2 (a0 a1 a2 a3 b0 b1 b2 b3 : Int) : (runF Try.prog S34 Zl 2000 74 [.v (.agg [.int .i64 a0, .int .i64 a1, .int .i64 a2, .int .i64 a3]), .v (.agg [.int .i64 b0, .int .i64 b1, .int .i64 b2, .int .i64 b3])] [] 0 [none, none, none, none, none, none, none, none, none, none, some true, some true, some true, some true, some true, none, some true, some true, some true, some true, some true, some true, some true, some true, some true, some true, some true, some true, some true, some true, none, some true, some true, some true, some true, some true, some true, some true, some true, some true, some true, some true, some true, some true, some true, none, some true, some true, some true, some true, some true, some true, some true, some true, some true, some true, some true, some true, some true, some true, none, some false, some false]).map (fun r => (r.1, r.2.2.2)) = some (LV.v (V1.one (At.bool (a3 != -9223372036854775808))), [(a0 == b0 && (a1 == b1 && (a2 == b2 && (a3 == b3 && true))), false), (a0 == b0 && (a1 == b1 && (a2 == b2 && (a3 == b3 && true))), false), (a3 == wr IntKind.i64 (0 - b3), true), (a3 == wr IntKind.i64 (0 - b3), true), (a3 == wr IntKind.i64 (0 - b3), true), (a3 == wr IntKind.i64 (0 - b3), true), (a3 == wr IntKind.i64 (0 - b3), true), (a2 != -9223372036854775808, true), (a2 != -9223372036854775808, true), (a2 != -9223372036854775808, true), (a2 != -9223372036854775808, true), (a2 != -9223372036854775808, true), (a2 != -9223372036854775808, true), (a2 != -9223372036854775808, true), (a2 != -9223372036854775808, true), (a2 != -9223372036854775808, true), (a2 == wr IntKind.i64 (0 - b2), true), (a2 == wr IntKind.i64 (0 - b2), true), (a2 == wr IntKind.i64 (0 - b2), true), (a2 == wr IntKind.i64 (0 - b2), true), (a2 == wr IntKind.i64 (0 - b2), true), (a1 != -9223372036854775808, true), (a1 != -9223372036854775808, true), (a1 != -9223372036854775808, true), (a1 != -9223372036854775808, true), (a1 != -9223372036854775808, true), (a1 != -9223372036854775808, true), (a1 != -9223372036854775808, true), (a1 != -9223372036854775808, true), (a1 != -9223372036854775808, true), (a1 == wr IntKind.i64 (0 - b1), true), (a1 == wr IntKind.i64 (0 - b1), true), (a1 == wr IntKind.i64 (0 - b1), true), (a1 == wr IntKind.i64 (0 - b1), true), (a1 == wr IntKind.i64 (0 - b1), true), (a0 != -9223372036854775808, true), (a0 != -9223372036854775808, true), (a0 != -9223372036854775808, true), (a0 != -9223372036854775808, true), (a0 != -9223372036854775808, true), (a0 != -9223372036854775808, true), (a0 != -9223372036854775808, true), (a0 != -9223372036854775808, true), (a0 != -9223372036854775808, true), (a0 == wr IntKind.i64 (0 - b0), true), (a0 == wr IntKind.i64 (0 - b0), true), (a0 == wr IntKind.i64 (0 - b0), true), (a0 == wr IntKind.i64 (0 - b0), true), (a0 == wr IntKind.i64 (0 - b0), true)]) := by kernel_rfl
theorem qsameR3 (a0 a1 a2 a3 b0 b1 b2 b3 : Int) : (runF Try.prog S34 Zl 2000 74 [.v (.agg [.int .i64 a0, .int .i64 a1, .int .i64 a2, .int .i64 a3]), .v (.agg [.int .i64 b0, .int .i64 b1, .int .i64 b2, .int .i64 b3])] [] 0 [none, none, none, none, none, none, none, none, none, none, some true, some true, some true, some true, some true, none, some true, some true, some true, some true, some true, some true, some true, some true, some true, some true, some true, some true, some true, some true, none, some true, some true, some true, some true, some true, some true, some true, some true, some true, some true, some true, some true, some true, some true, none, some true, some true, some true, some true, some true, some true, some true, some true, some true, some false, some false, some false, some false, some false, none, some true, some true]).map (fun r => (r.1, r.2.2.2)) = some (LV.v (V1.one (At.bool true)), [(a0 == b0 && (a1 == b1 && (a2 == b2 && (a3 == b3 && true))), true), (a0 == b0 && (a1 == b1 && (a2 == b2 && (a3 == b3 && true))), true), (a3 == wr IntKind.i64 (0 - b3), false), (a3 == wr IntKind.i64 (0 - b3), false), (a3 == wr IntKind.i64 (0 - b3), false), (a3 == wr IntKind.i64 (0 - b3), false), (a3 == wr IntKind.i64 (0 - b3), false), (a2 != -9223372036854775808, true), (a2 != -9223372036854775808, true), (a2 != -9223372036854775808, true), (a2 != -9223372036854775808, true), (a2 != -9223372036854775808, true), (a2 != -9223372036854775808, true), (a2 != -9223372036854775808, true), (a2 != -9223372036854775808, true), (a2 != -9223372036854775808, true), (a2 == wr IntKind.i64 (0 - b2), true), (a2 == wr IntKind.i64 (0 - b2), true), (a2 == wr IntKind.i64 (0 - b2), true), (a2 == wr IntKind.i64 (0 - b2), true), (a2 == wr IntKind.i64 (0 - b2), true), (a1 != -9223372036854775808, true), (a1 != -9223372036854775808, true), (a1 != -9223372036854775808, true), (a1 != -9223372036854775808, true), (a1 != -9223372036854775808, true), (a1 != -9223372036854775808, true), (a1 != -9223372036854775808, true), (a1 != -9223372036854775808, true), (a1 != -9223372036854775808, true), (a1 == wr IntKind.i64 (0 - b1), true), (a1 == wr IntKind.i64 (0 - b1), true), (a1 == wr IntKind.i64 (0 - b1), true), (a1 == wr IntKind.i64 (0 - b1), true), (a1 == wr IntKind.i64 (0 - b1), true), (a0 != -9223372036854775808, true), (a0 != -9223372036854775808, true), (a0 != -9223372036854775808, true), (a0 != -9223372036854775808, true), (a0 != -9223372036854775808, true), (a0 != -9223372036854775808, true), (a0 != -9223372036854775808, true), (a0 != -9223372036854775808, true), (a0 != -9223372036854775808, true), (a0 == wr IntKind.i64 (0 - b0), true), (a0 == wr IntKind.i64 (0 - b0), true), (a0 == wr IntKind.i64 (0 - b0), true), (a0 == wr IntKind.i64 (0 - b0), true), (a0 == wr IntKind.i64 (0 - b0), true)]) := by kernel_rfl
theorem qsameR4 (a0 a1 a2 a3 b0 b1 b2 b3 : Int) : (runF Try.prog S34 Zl 2000 74 [.v (.agg [.int .i64 a0, .int .i64 a1, .int .i64 a2, .int .i64 a3]), .v (.agg [.int .i64 b0, .int .i64 b1, .int .i64 b2, .int .i64 b3])] [] 0 [none, none, none, none, none, none, none, none, none, none, some true, some true, some true, some true, some true, none, some true, some true, some true, some true, some true, some true, some true, some true, some true, some true, some true, some true, some true, some true, none, some true, some true, some true, some true, some true, some true, some true, some true, some true, some true, some true, some true, some true, some true, none, some true, some true, some true, some true, some true, some true, some true, some true, some true, some false, some false, some false, some false, some false, none, some false, some false]).map (fun r => (r.1, r.2.2.2)) = some (LV.v (V1.one (At.bool false)), [(a0 == b0 && (a1 == b1 && (a2 == b2 && (a3 == b3 && true))), false), (a0 == b0 && (a1 == b1 && (a2 == b2 && (a3 == b3 && true))), false), (a3 == wr IntKind.i64 (0 - b3), false), (a3 == wr IntKind.i64 (0 - b3), false), (a3 == wr IntKind.i64 (0 - b3), false), (a3 == wr IntKind.i64 (0 - b3), false), (a3 == wr IntKind.i64 (0 - b3), false), (a2 != -9223372036854775808, true), (a2 != -9223372036854775808, true), (a2 != -9223372036854775808, true), (a2 != -9223372036854775808, true), (a2 != -9223372036854775808, true), (a2 != -9223372036854775808, true), (a2 != -9223372036854775808, true), (a2 != -9223372036854775808, true), (a2 != -9223372036854775808, true), (a2 == wr IntKind.i64 (0 - b2), true), (a2 == wr IntKind.i64 (0 - b2), true), (a2 == wr IntKind.i64 (0 - b2), true), (a2 == wr IntKind.i64 (0 - b2), true), (a2 == wr IntKind.i64 (0 - b2), true), (a1 != -9223372036854775808, true), (a1 != -9223372036854775808, true), (a1 != -9223372036854775808, true), (a1 != -9223372036854775808, true), (a1 != -9223372036854775808, true), (a1 != -9223372036854775808, true), (a1 != -9223372036854775808, true), (a1 != -9223372036854775808, true), (a1 != -9223372036854775808, true), (a1 == wr IntKind.i64 (0 - b1), true), (a1 == wr IntKind.i64 (0 - b1), true), (a1 == wr IntKind.i64 (0 - b1), true), (a1 == wr IntKind.i64 (0 - b1), true), (a1 == wr IntKind.i64 (0 - b1), true), (a0 != -9223372036854775808, true), (a0 != -9223372036854775808, true), (a0 != -9223372036854775808, true), (a0 != -9223372036854775808, true), (a0 != -9223372036854775808, true), (a0 != -9223372036854775808, true), (a0 != -9223372036854775808, true), (a0 != -9223372036854775808, true), (a0 != -9223372036854775808, true), (a0 == wr IntKind.i64 (0 - b0), true), (a0 == wr IntKind.i64 (0 - b0), true), (a0 == wr IntKind.i64 (0 - b0), true), (a0 == wr IntKind.i64 (0 - b0), true), (a0 == wr IntKind.i64 (0 - b0), true)]) := by kernel_rfl
theorem qsameR5 (a0 a1 a2 a3 b0 b1 b2 b3 : Int) : (runF Try.prog S34 Zl 2000 74 [.v (.agg [.int .i64 a0, .int .i64 a1, .int .i64 a2, .int .i64 a3]), .v (.agg [.int .i64 b0, .int .i64 b1, .int .i64 b2, .int .i64 b3])] [] 0 [none, none, none, none, none, none, none, none, none, none, some true, some true, some true, some true, some true, none, some true, some true, some true, some true, some true, some true, some true, some true, some true, some true, some true, some true, some true, some true, none, some true, some true, some true, some true, some true, some true, some true, some true, some true, some true, some true, some true, some true, some true, none, some false, some false, some false, some false, some false, some false, some false, some false, some false, none, none, none, none, none, none, some true, some true]).map (fun r => (r.1, r.2.2.2)) = some (LV.v (V1.one (At.bool true)), [(a0 == b0 && (a1 == b1 && (a2 == b2 && (a3 == b3 && true))), true), (a0 == b0 && (a1 == b1 && (a2 == b2 && (a3 == b3 && true))), true), (a2 != -9223372036854775808, false), (a2 != -9223372036854775808, false), (a2 != -9223372036854775808, false), (a2 != -9223372036854775808, false), (a2 != -9223372036854775808, false), (a2 != -9223372036854775808, false), (a2 != -9223372036854775808, false), (a2 != -9223372036854775808, false), (a2 != -9223372036854775808, false), (a2 == wr IntKind.i64 (0 - b2), true), (a2 == wr IntKind.i64 (0 - b2), true), (a2 == wr IntKind.i64 (0 - b2), true), (a2 == wr IntKind.i64 (0 - b2), true), (a2 == wr IntKind.i64 (0 - b2), true), (a1 != -9223372036854775808, true), (a1 != -9223372036854775808, true), (a1 != -9223372036854775808, true), (a1 != -9223372036854775808, true), (a1 != -9223372036854775808, true), (a1 != -9223372036854775808, true), (a1 != -9223372036854775808, true), (a1 != -9223372036854775808, true), (a1 != -9223372036854775808, true), (a1 == wr IntKind.i64 (0 - b1), true), (a1 == wr IntKind.i64 (0 - b1), true), (a1 == wr IntKind.i64 (0 - b1), true), (a1 == wr IntKind.i64 (0 - b1), true), (a1 == wr IntKind.i64 (0 - b1), true), (a0 != -9223372036854775808, true), (a0 != -9223372036854775808, true), (a0 != -9223372036854775808, true), (a0 != -9223372036854775808, true), (a0 != -9223372036854775808, true), (a0 != -9223372036854775808, true), (a0 != -9223372036854775808, true), (a0 != -9223372036854775808, true), (a0 != -9223372036854775808, true), (a0 == wr IntKind.i64 (0 - b0), true), (a0 == wr IntKind.i64 (0 - b0), true), (a0 == wr IntKind.i64 (0 - b0), true), (a0 == wr IntKind.i64 (0 - b0), true), (a0 == wr IntKind.i64 (0 - b0), true)]) := by kernel_rfl
theorem qsameR6 (a0 a1 a2 a3 b0 b1 b2 b3 : Int) : (runF Try.prog S34 Zl 2000 74 [.v (.agg [.int .i64 a0, .int .i64 a1, .int .i64 a2, .int .i64 a3]), .v (.agg [.int .i64 b0, .int .i64 b1, .int .i64 b2, .int .i64 b3])] [] 0 [none, none, none, none, none, none, none, none, none, none, some true, some true, some true, some true, some true, none, some true, some true, some true, some true, some true, some true, some true, some true, some true, some true, some true, some true, some true, some true, none, some true, some true, some true, some true, some true, some true, some true, some true, some true, some true, some true, some true, some true, some true, none, some false, some false, some false, some false, some false, some false, some false, some false, some false, none, none, none, none, none, none, some false, some false]).map (fun r => (r.1, r.2.2.2)) = some (LV.v (V1.one (At.bool false)), [(a0 == b0 && (a1 == b1 && (a2 == b2 && (a3 == b3 && true))), false), (a0 == b0 && (a1 == b1 && (a2 == b2 && (a3 == b3 && true))), false), (a2 != -9223372036854775808, false), (a2 != -9223372036854775808, false), (a2 != -9223372036854775808, false), (a2 != -9223372036854775808, false), (a2 != -9223372036854775808, false), (a2 != -9223372036854775808, false), (a2 != -9223372036854775808, false), (a2 != -9223372036854775808, false), (a2 != -9223372036854775808, false), (a2 == wr IntKind.i64 (0 - b2), true), (a2 == wr IntKind.i64 (0 - b2), true), (a2 == wr IntKind.i64 (0 - b2), true), (a2 == wr IntKind.i64 (0 - b2), true), (a2 == wr IntKind.i64 (0 - b2), true), (a1 != -9223372036854775808, true), (a1 != -9223372036854775808, true), (a1 != -9223372036854775808, true), (a1 != -9223372036854775808, true), (a1 != -9223372036854775808, true), (a1 != -9223372036854775808, true), (a1 != -9223372036854775808, true), (a1 != -9223372036854775808, true), (a1 != -9223372036854775808, true), (a1 == wr IntKind.i64 (0 - b1), true), (a1 == wr IntKind.i64 (0 - b1), true), (a1 == wr IntKind.i64 (0 - b1), true), (a1 == wr IntKind.i64 (0 - b1), true), (a1 == wr IntKind.i64 (0 - b1), true), (a0 != -9223372036854775808, true), (a0 != -9223372036854775808, true), (a0 != -9223372036854775808, true), (a0 != -9223372036854775808, true), (a0 != -9223372036854775808, true), (a0 != -9223372036854775808, true), (a0 != -9223372036854775808, true), (a0 != -9223372036854775808, true), (a0 != -9223372036854775808, true), (a0 == wr IntKind.i64 (0 - b0), true), (a0 == wr IntKind.i64 (0 - b0), true), (a0 == wr IntKind.i64 (0 - b0), true), (a0 == wr IntKind.i64 (0 - b0), true), (a0 == wr IntKind.i64 (0 - b0), true)]) := by kernel_rfl
theorem qsameR7 (a0 a1 a2 a3 b0 b1 b2 b3 : Int) : (runF Try.prog S34 Zl 2000 74 [.v (.agg [.int .i64 a0, .int .i64 a1, .int .i64 a2, .int .i64 a3]), .v (.agg [.int .i64 b0, .int .i64 b1, .int .i64 b2, .int .i64 b3])] [] 0 [none, none, none, none, none, none, none, none, none, none, some true, some true, some true, some true, some true, none, some true, some true, some true, some true, some true, some true, some true, some true, some true, some true, some true, some true, some true, some true, none, some true, some true, some true, some true, some true, some true, some true, some true, some true, some false, some false, some false, some false, some false, none, none, none, none, none, none, none, none, none, none, none, none, none, none, none, none, some true, some true]).map (fun r => (r.1, r.2.2.2)) = some (LV.v (V1.one (At.bool true)), [(a0 == b0 && (a1 == b1 && (a2 == b2 && (a3 == b3 && true))), true), (a0 == b0 && (a1 == b1 && (a2 == b2 && (a3 == b3 && true))), true), (a2 == wr IntKind.i64 (0 - b2), false), (a2 == wr IntKind.i64 (0 - b2), false), (a2 == wr IntKind.i64 (0 - b2), false), (a2 == wr IntKind.i64 (0 - b2), false), (a2 == wr IntKind.i64 (0 - b2), false), (a1 != -9223372036854775808, true), (a1 != -9223372036854775808, true), (a1 != -9223372036854775808, true), (a1 != -9223372036854775808, true), (a1 != -9223372036854775808, true), (a1 != -9223372036854775808, true), (a1 != -9223372036854775808, true), (a1 != -9223372036854775808, true), (a1 != -9223372036854775808, true), (a1 == wr IntKind.i64 (0 - b1), true), (a1 == wr IntKind.i64 (0 - b1), true), (a1 == wr IntKind.i64 (0 - b1), true), (a1 == wr IntKind.i64 (0 - b1), true), (a1 == wr IntKind.i64 (0 - b1), true), (a0 != -9223372036854775808, true), (a0 != -9223372036854775808, true), (a0 != -9223372036854775808, true), (a0 != -9223372036854775808, true), (a0 != -9223372036854775808, true), (a0 != -9223372036854775808, true), (a0 != -9223372036854775808, true), (a0 != -9223372036854775808, true), (a0 != -9223372036854775808, true), (a0 == wr IntKind.i64 (0 - b0), true), (a0 == wr IntKind.i64 (0 - b0), true), (a0 == wr IntKind.i64 (0 - b0), true), (a0 == wr IntKind.i64 (0 - b0), true), (a0 == wr IntKind.i64 (0 - b0), true)]) := by kernel_rfl
theorem qsameR8 (a0 a1 a2 a3 b0 b1 b2 b3 : Int) : (runF Try.prog S34 Zl 2000 74 [.v (.agg [.int .i64 a0, .int .i64 a1, .int .i64 a2, .int .i64 a3]), .v (.agg [.int .i64 b0, .int .i64 b1, .int .i64 b2, .int .i64 b3])] [] 0 [none, none, none, none, none, none, none, none, none, none, some true, some true, some true, some true, some true, none, some true, some true, some true, some true, some true, some true, some true, some true, some true, some true, some true, some true, some true, some true, none, some true, some true, some true, some true, some true, some true, some true, some true, some true, some false, some false, some false, some false, some false, none, none, none, none, none, none, none, none, none, none, none, none, none, none, none, none, some false, some false]).map (fun r => (r.1, r.2.2.2)) = some (LV.v (V1.one (At.bool false)), [(a0 == b0 && (a1 == b1 && (a2 == b2 && (a3 == b3 && true))), false), (a0 == b0 && (a1 == b1 && (a2 == b2 && (a3 == b3 && true))), false), (a2 == wr IntKind.i64 (0 - b2), false), (a2 == wr IntKind.i64 (0 - b2), false), (a2 == wr IntKind.i64 (0 - b2), false), (a2 == wr IntKind.i64 (0 - b2), false), (a2 == wr IntKind.i64 (0 - b2), false), (a1 != -9223372036854775808, true), (a1 != -9223372036854775808, true), (a1 != -9223372036854775808, true), (a1 != -9223372036854775808, true), (a1 != -9223372036854775808, true), (a1 != -9223372036854775808, true), (a1 != -9223372036854775808, true), (a1 != -9223372036854775808, true), (a1 != -9223372036854775808, true), (a1 == wr IntKind.i64 (0 - b1), true), (a1 == wr IntKind.i64 (0 - b1), true), (a1 == wr IntKind.i64 (0 - b1), true), (a1 == wr IntKind.i64 (0 - b1), true), (a1 == wr IntKind.i64 (0 - b1), true), (a0 != -9223372036854775808, true), (a0 != -9223372036854775808, true), (a0 != -9223372036854775808, true), (a0 != -9223372036854775808, true), (a0 != -9223372036854775808, true), (a0 != -9223372036854775808, true), (a0 != -9223372036854775808, true), (a0 != -9223372036854775808, true), (a0 != -9223372036854775808, true), (a0 == wr IntKind.i64 (0 - b0), true), (a0 == wr IntKind.i64 (0 - b0), true), (a0 == wr IntKind.i64 (0 - b0), true), (a0 == wr IntKind.i64 (0 - b0), true), (a0 == wr IntKind.i64 (0 - b0), true)]) := by kernel_rfl
theorem qsameR9 (a0 a1 a2 a3 b0 b1 b2 b3 : Int) : (runF Try.prog S34 Zl 2000 74 [.v (.agg [.int .i64 a0, .int .i64 a1, .int .i64 a2, .int .i64 a3]), .v (.agg [.int .i64 b0, .int .i64 b1, .int .i64 b2, .int .i64 b3])] [] 0 [none, none, none, none, none, none, none, none, none, none, some true, some true, some true, some true, some true, none, some true, some true, some true, some true, some true, some true, some true, some true, some true, some true, some true, some true, some true, some true, none, some false, some false, some false, some false, some false, some false, some false, some false, some false, none, none, none, none, none, none, none, none, none, none, none, none, none, none, none, none, none, none, none, none, none, some true, some true]).map (fun r => (r.1, r.2.2.2)) = some (LV.v (V1.one (At.bool true)), [(a0 == b0 && (a1 == b1 && (a2 == b2 && (a3 == b3 && true))), true), (a0 == b0 && (a1 == b1 && (a2 == b2 && (a3 == b3 && true))), true), (a1 != -9223372036854775808, false), (a1 != -9223372036854775808, false), (a1 != -9223372036854775808, false), (a1 != -9223372036854775808, false), (a1 != -9223372036854775808, false), (a1 != -9223372036854775808, false), (a1 != -9223372036854775808, false), (a1 != -9223372036854775808, false), (a1 != -9223372036854775808, false), (a1 == wr IntKind.i64 (0 - b1), true), (a1 == wr IntKind.i64 (0 - b1), true), (a1 == wr IntKind.i64 (0 - b1), true), (a1 == wr IntKind.i64 (0 - b1), true), (a1 == wr IntKind.i64 (0 - b1), true), (a0 != -9223372036854775808, true), (a0 != -9223372036854775808, true), (a0 != -9223372036854775808, true), (a0 != -9223372036854775808, true), (a0 != -9223372036854775808, true), (a0 != -9223372036854775808, true), (a0 != -9223372036854775808, true), (a0 != -9223372036854775808, true), (a0 != -9223372036854775808, true), (a0 == wr IntKind.i64 (0 - b0), true), (a0 == wr IntKind.i64 (0 - b0), true), (a0 == wr IntKind.i64 (0 - b0), true), (a0 == wr IntKind.i64 (0 - b0), true), (a0 == wr IntKind.i64 (0 - b0), true)]) := by kernel_rfl
theorem qsameR10 (a0 a1 a2 a3 b0 b1 b2 b3 : Int) : (runF Try.prog S34 Zl 2000 74 [.v (.agg [.int .i64 a0, .int .i64 a1, .int .i64 a2, .int .i64 a3]), .v (.agg [.int .i64 b0, .int .i64 b1, .int .i64 b2, .int .i64 b3])] [] 0 [none, none, none, none, none, none, none, none, none, none, some true, some true, some true, some true, some true, none, some true, some true, some true, some true, some true, some true, some true, some true, some true, some true, some true, some true, some true, some true, none, some false, some false, some false, some false, some false, some false, some false, some false, some false, none, none, none, none, none, none, none, none, none, none, none, none, none, none, none, none, none, none, none, none, none, some false, some false]).map (fun r => (r.1, r.2.2.2)) = some (LV.v (V1.one (At.bool false)), [(a0 == b0 && (a1 == b1 && (a2 == b2 && (a3 == b3 && true))), false), (a0 == b0 && (a1 == b1 && (a2 == b2 && (a3 == b3 && true))), false), (a1 != -9223372036854775808, false), (a1 != -9223372036854775808, false), (a1 != -9223372036854775808, false), (a1 != -9223372036854775808, false), (a1 != -9223372036854775808, false), (a1 != -9223372036854775808, false), (a1 != -9223372036854775808, false), (a1 != -9223372036854775808, false), (a1 != -9223372036854775808, false), (a1 == wr IntKind.i64 (0 - b1), true), (a1 == wr IntKind.i64 (0 - b1), true), (a1 == wr IntKind.i64 (0 - b1), true), (a1 == wr IntKind.i64 (0 - b1), true), (a1 == wr IntKind.i64 (0 - b1), true), (a0 != -9223372036854775808, true), (a0 != -9223372036854775808, true), (a0 != -9223372036854775808, true), (a0 != -9223372036854775808, true), (a0 != -9223372036854775808, true), (a0 != -9223372036854775808, true), (a0 != -9223372036854775808, true), (a0 != -9223372036854775808, true), (a0 != -9223372036854775808, true), (a0 == wr IntKind.i64 (0 - b0), true), (a0 == wr IntKind.i64 (0 - b0), true), (a0 == wr IntKind.i64 (0 - b0), true), (a0 == wr IntKind.i64 (0 - b0), true), (a0 == wr IntKind.i64 (0 - b0), true)]) := by kernel_rfl
theorem qsameR11 (a0 a1 a2 a3 b0 b1 b2 b3 : Int) : (runF Try.prog S34 Zl 2000 74 [.v (.agg [.int .i64 a0, .int .i64 a1, .int .i64 a2, .int .i64 a3]), .v (.agg [.int .i64 b0, .int .i64 b1, .int .i64 b2, .int .i64 b3])] [] 0 [none, none, none, none, none, none, none, none, none, none, some true, some true, some true, some true, some true, none, some true, some true, some true, some true, some true, some true, some true, some true, some true, some false, some false, some false, some false, some false, none, none, none, none, none, none, none, none, none, none, none, none, none, none, none, none, none, none, none, none, none, none, none, none, none, none, none, none, none, none, none, some true, some true]).map (fun r => (r.1, r.2.2.2)) = some (LV.v (V1.one (At.bool true)), [(a0 == b0 && (a1 == b1 && (a2 == b2 && (a3 == b3 && true))), true), (a0 == b0 && (a1 == b1 && (a2 == b2 && (a3 == b3 && true))), true), (a1 == wr IntKind.i64 (0 - b1), false), (a1 == wr IntKind.i64 (0 - b1), false), (a1 == wr IntKind.i64 (0 - b1), false), (a1 == wr IntKind.i64 (0 - b1), false), (a1 == wr IntKind.i64 (0 - b1), false), (a0 != -9223372036854775808, true), (a0 != -9223372036854775808, true), (a0 != -9223372036854775808, true), (a0 != -9223372036854775808, true), (a0 != -9223372036854775808, true), (a0 != -9223372036854775808, true), (a0 != -9223372036854775808, true), (a0 != -9223372036854775808, true), (a0 != -9223372036854775808, true), (a0 == wr IntKind.i64 (0 - b0), true), (a0 == wr IntKind.i64 (0 - b0), true), (a0 == wr IntKind.i64 (0 - b0), true), (a0 == wr IntKind.i64 (0 - b0), true), (a0 == wr IntKind.i64 (0 - b0), true)]) := by kernel_rfl
theorem qsameR12 (a0 a1 a2 a3 b0 b1 b2 b3 : Int) : (runF Try.prog S34 Zl 2000 74 [.v (.agg [.int .i64 a0, .int .i64 a1, .int .i64 a2, .int .i64 a3]), .v (.agg [.int .i64 b0, .int .i64 b1, .int .i64 b2, .int .i64 b3])] [] 0 [none, none, none, none, none, none, none, none, none, none, some true, some true, some true, some true, some true, none, some true, some true, some true, some true, some true, some true, some true, some true, some true, some false, some false, some false, some false, some false, none, none, none, none, none, none, none, none, none, none, none, none, none, none, none, none, none, none, none, none, none, none, none, none, none, none, none, none, none, none, none, some false, some false]).map (fun r => (r.1, r.2.2.2)) = some (LV.v (V1.one (At.bool false)), [(a0 == b0 && (a1 == b1 && (a2 == b2 && (a3 == b3 && true))), false), (a0 == b0 && (a1 == b1 && (a2 == b2 && (a3 == b3 && true))), false), (a1 == wr IntKind.i64 (0 - b1), false), (a1 == wr IntKind.i64 (0 - b1), false), (a1 == wr IntKind.i64 (0 - b1), false), (a1 == wr IntKind.i64 (0 - b1), false), (a1 == wr IntKind.i64 (0 - b1), false), (a0 != -9223372036854775808, true), (a0 != -9223372036854775808, true), (a0 != -9223372036854775808, true), (a0 != -9223372036854775808, true), (a0 != -9223372036854775808, true), (a0 != -9223372036854775808, true), (a0 != -9223372036854775808, true), (a0 != -9223372036854775808, true), (a0 != -9223372036854775808, true), (a0 == wr IntKind.i64 (0 - b0), true), (a0 == wr IntKind.i64 (0 - b0), true), (a0 == wr IntKind.i64 (0 - b0), true), (a0 == wr IntKind.i64 (0 - b0), true), (a0 == wr IntKind.i64 (0 - b0), true)]) := by kernel_rfl
theorem qsameR13 (a0 a1 a2 a3 b0 b1 b2 b3 : Int) : (runF Try.prog S34 Zl 2000 74 [.v (.agg [.int .i64 a0, .int .i64 a1, .int .i64 a2, .int .i64 a3]), .v (.agg [.int .i64 b0, .int .i64 b1, .int .i64 b2, .int .i64 b3])] [] 0 [none, none, none, none, none, none, none, none, none, none, some true, some true, some true, some true, some true, none, some false, some false, some false, some false, some false, some false, some false, some false, some false, none, none, none, none, none, none, none, none, none, none, none, none, none, none, none, none, none, none, none, none, none, none, none, none, none, none, none, none, none, none, none, none, none, none, none, none, some true, some true]).map (fun r => (r.1, r.2.2.2)) = some (LV.v (V1.one (At.bool true)), [(a0 == b0 && (a1 == b1 && (a2 == b2 && (a3 == b3 && true))), true), (a0 == b0 && (a1 == b1 && (a2 == b2 && (a3 == b3 && true))), true), (a0 != -9223372036854775808, false), (a0 != -9223372036854775808, false), (a0 != -9223372036854775808, false), (a0 != -9223372036854775808, false), (a0 != -9223372036854775808, false), (a0 != -9223372036854775808, false), (a0 != -9223372036854775808, false), (a0 != -9223372036854775808, false), (a0 != -9223372036854775808, false), (a0 == wr IntKind.i64 (0 - b0), true), (a0 == wr IntKind.i64 (0 - b0), true), (a0 == wr IntKind.i64 (0 - b0), true), (a0 == wr IntKind.i64 (0 - b0), true), (a0 == wr IntKind.i64 (0 - b0), true)]) := by kernel_rfl
theorem qsameR14 (a0 a1 a2 a3 b0 b1 b2 b3 : Int) : (runF Try.prog S34 Zl 2000 74 [.v (.agg [.int .i64 a0, .int .i64 a1, .int .i64 a2, .int .i64 a3]), .v (.agg [.int .i64 b0, .int .i64 b1, .int .i64 b2, .int .i64 b3])] [] 0 [none, none, none, none, none, none, none, none, none, none, some true, some true, some true, some true, some true, none, some false, some false, some false, some false, some false, some false, some false, some false, some false, none, none, none, none, none, none, none, none, none, none, none, none, none, none, none, none, none, none, none, none, none, none, none, none, none, none, none, none, none, none, none, none, none, none, none, none, some false, some false]).map (fun r => (r.1, r.2.2.2)) = some (LV.v (V1.one (At.bool false)), [(a0 == b0 && (a1 == b1 && (a2 == b2 && (a3 == b3 && true))), false), (a0 == b0 && (a1 == b1 && (a2 == b2 && (a3 == b3 && true))), false), (a0 != -9223372036854775808, false), (a0 != -9223372036854775808, false), (a0 != -9223372036854775808, false), (a0 != -9223372036854775808, false), (a0 != -9223372036854775808, false), (a0 != -9223372036854775808, false), (a0 != -9223372036854775808, false), (a0 != -9223372036854775808, false), (a0 != -9223372036854775808, false), (a0 == wr IntKind.i64 (0 - b0), true), (a0 == wr IntKind.i64 (0 - b0), true), (a0 == wr IntKind.i64 (0 - b0), true), (a0 == wr IntKind.i64 (0 - b0), true), (a0 == wr IntKind.i64 (0 - b0), true)]) := by kernel_rfl
theorem qsameR15 (a0 a1 a2 a3 b0 b1 b2 b3 : Int) : (runF Try.prog S34 Zl 2000 74 [.v (.agg [.int .i64 a0, .int .i64 a1, .int .i64 a2, .int .i64 a3]), .v (.agg [.int .i64 b0, .int .i64 b1, .int .i64 b2, .int .i64 b3])] [] 0 [none, none, none, none, none, none, none, none, none, none, some false, some false, some false, some false, some false, none, none, none, none, none, none, none, none, none, none, none, none, none, none, none, none, none, none, none, none, none, none, none, none, none, none, none, none, none, none, none, none, none, none, none, none, none, none, none, none, none, none, none, none, none, none, some true, some true]).map (fun r => (r.1, r.2.2.2)) = some (LV.v (V1.one (At.bool true)), [(a0 == b0 && (a1 == b1 && (a2 == b2 && (a3 == b3 && true))), true), (a0 == b0 && (a1 == b1 && (a2 == b2 && (a3 == b3 && true))), true), (a0 == wr IntKind.i64 (0 - b0), false), (a0 == wr IntKind.i64 (0 - b0), false), (a0 == wr IntKind.i64 (0 - b0), false), (a0 == wr IntKind.i64 (0 - b0), false), (a0 == wr IntKind.i64 (0 - b0), false)]) := by kernel_rfl
theorem qsameR16 (a0 a1 a2 a3 b0 b1 b2 b3 : Int) : (runF Try.prog S34 Zl 2000 74 [.v (.agg [.int .i64 a0, .int .i64 a1, .int .i64 a2, .int .i64 a3]), .v (.agg [.int .i64 b0, .int .i64 b1, .int .i64 b2, .int .i64 b3])] [] 0 [none, none, none, none, none, none, none, none, none, none, some false, some false, some false, some false, some false, none, none, none, none, none, none, none, none, none, none, none, none, none, none, none, none, none, none, none, none, none, none, none, none, none, none, none, none, none, none, none, none, none, none, none, none, none, none, none, none, none, none, none, none, none, none, some false, some false]).map (fun r => (r.1, r.2.2.2)) = some (LV.v (V1.one (At.bool false)), [(a0 == b0 && (a1 == b1 && (a2 == b2 && (a3 == b3 && true))), false), (a0 == b0 && (a1 == b1 && (a2 == b2 && (a3 == b3 && true))), false), (a0 == wr IntKind.i64 (0 - b0), false), (a0 == wr IntKind.i64 (0 - b0), false), (a0 == wr IntKind.i64 (0 - b0), false), (a0 == wr IntKind.i64 (0 - b0), false), (a0 == wr IntKind.i64 (0 - b0), false)]) := by kernel_rfl
def qsameT (a0 a1 a2 a3 b0 b1 b2 b3 : Int) : Option (LV × List (Bool × Bool)) := 
  bif (a0 == wr IntKind.i64 (0 - b0)) then 
    bif (a0 != -9223372036854775808) then 
      bif (a1 == wr IntKind.i64 (0 - b1)) then 
        bif (a1 != -9223372036854775808) then 
          bif (a2 == wr IntKind.i64 (0 - b2)) then 
            bif (a2 != -9223372036854775808) then 
              bif (a3 == wr IntKind.i64 (0 - b3)) then 
                bif (a0 == b0 && (a1 == b1 && (a2 == b2 && (a3 == b3 && true)))) then some (LV.v (V1.one (At.bool true)), [])
                else some (LV.v (V1.one (At.bool (a3 != -9223372036854775808))), [])
              else 
                bif (a0 == b0 && (a1 == b1 && (a2 == b2 && (a3 == b3 && true)))) then some (LV.v (V1.one (At.bool true)), [])
                else some (LV.v (V1.one (At.bool false)), [])
            else 
              bif (a0 == b0 && (a1 == b1 && (a2 == b2 && (a3 == b3 && true)))) then some (LV.v (V1.one (At.bool true)), [])
              else some (LV.v (V1.one (At.bool false)), [])
          else 
            bif (a0 == b0 && (a1 == b1 && (a2 == b2 && (a3 == b3 && true)))) then some (LV.v (V1.one (At.bool true)), [])
            else some (LV.v (V1.one (At.bool false)), [])
        else 
          bif (a0 == b0 && (a1 == b1 && (a2 == b2 && (a3 == b3 && true)))) then some (LV.v (V1.one (At.bool true)), [])
          else some (LV.v (V1.one (At.bool false)), [])
      else 
        bif (a0 == b0 && (a1 == b1 && (a2 == b2 && (a3 == b3 && true)))) then some (LV.v (V1.one (At.bool true)), [])
        else some (LV.v (V1.one (At.bool false)), [])
    else 
      bif (a0 == b0 && (a1 == b1 && (a2 == b2 && (a3 == b3 && true)))) then some (LV.v (V1.one (At.bool true)), [])
      else some (LV.v (V1.one (At.bool false)), [])
  else 
    bif (a0 == b0 && (a1 == b1 && (a2 == b2 && (a3 == b3 && true)))) then some (LV.v (V1.one (At.bool true)), [])
    else some (LV.v (V1.one (At.bool false)), [])
def qsameF : List LV → Option (LV × List (Bool × Bool))
  | [.v (.agg [.int .i64 a0, .int .i64 a1, .int .i64 a2, .int .i64 a3]), .v (.agg [.int .i64 b0, .int .i64 b1, .int .i64 b2, .int .i64 b3])] => qsameT a0 a1 a2 a3 b0 b1 b2 b3
  | _ => none
theorem sumqsame : SumOK Try.prog 74 (pureSum qsameF) := by
  refine pureSum_run (z := Zl) sound34 (own_of sound34 Try.func74 (by kernel_rfl)) fun args v cs hF hc => ?_
  unfold qsameF at hF
  split at hF
  · rename_i a0 a1 a2 a3 b0 b1 b2 b3
    unfold qsameT at hF
    rcases bool_cases (a0 == wr IntKind.i64 (0 - b0)) with h0 | h0
    · rw [cond_t h0] at hF
      rcases bool_cases (a0 != -9223372036854775808) with h1 | h1
      · rw [cond_t h1] at hF
        rcases bool_cases (a1 == wr IntKind.i64 (0 - b1)) with h2 | h2
        · rw [cond_t h2] at hF
          rcases bool_cases (a1 != -9223372036854775808) with h3 | h3
          · rw [cond_t h3] at hF
            rcases bool_cases (a2 == wr IntKind.i64 (0 - b2)) with h4 | h4
            · rw [cond_t h4] at hF
              rcases bool_cases (a2 != -9223372036854775808) with h5 | h5
              · rw [cond_t h5] at hF
                rcases bool_cases (a3 == wr IntKind.i64 (0 - b3)) with h6 | h6
                · rw [cond_t h6] at hF
                  rcases bool_cases (a0 == b0 && (a1 == b1 && (a2 == b2 && (a3 == b3 && true)))) with h7 | h7
                  · rw [cond_t h7] at hF
                    cases hF
                    exact ⟨2000, [none, none, none, none, none, none, none, none, none, none, some true, some true, some true, some true, some true, none, some true, some true, some true, some true, some true, some true, some true, some true, some true, some true, some true, some true, some true, some true, none, some true, some true, some true, some true, some true, some true, some true, some true, some true, some true, some true, some true, some true, some true, none, some true, some true, some true, some true, some true, some true, some true, some true, some true, some true, some true, some true, some true, some true, none, some true, some true], _, qsameR1 a0 a1 a2 a3 b0 b1 b2 b3, ae_cons (h7) (ae_cons (h7) (ae_cons (h6) (ae_cons (h6) (ae_cons (h6) (ae_cons (h6) (ae_cons (h6) (ae_cons (h5) (ae_cons (h5) (ae_cons (h5) (ae_cons (h5) (ae_cons (h5) (ae_cons (h5) (ae_cons (h5) (ae_cons (h5) (ae_cons (h5) (ae_cons (h4) (ae_cons (h4) (ae_cons (h4) (ae_cons (h4) (ae_cons (h4) (ae_cons (h3) (ae_cons (h3) (ae_cons (h3) (ae_cons (h3) (ae_cons (h3) (ae_cons (h3) (ae_cons (h3) (ae_cons (h3) (ae_cons (h3) (ae_cons (h2) (ae_cons (h2) (ae_cons (h2) (ae_cons (h2) (ae_cons (h2) (ae_cons (h1) (ae_cons (h1) (ae_cons (h1) (ae_cons (h1) (ae_cons (h1) (ae_cons (h1) (ae_cons (h1) (ae_cons (h1) (ae_cons (h1) (ae_cons (h0) (ae_cons (h0) (ae_cons (h0) (ae_cons (h0) (ae_cons (h0) (ae_nil)))))))))))))))))))))))))))))))))))))))))))))))))⟩
                  · rw [cond_f h7] at hF
                    cases hF
                    exact ⟨2000, [none, none, none, none, none, none, none, none, none, none, some true, some true, some true, some true, some true, none, some true, some true, some true, some true, some true, some true, some true, some true, some true, some true, some true, some true, some true, some true, none, some true, some true, some true, some true, some true, some true, some true, some true, some true, some true, some true, some true, some true, some true, none, some true, some true, some true, some true, some true, some true, some true, some true, some true, some true, some true, some true, some true, some true, none, some false, some false], _, qsameR2 a0 a1 a2 a3 b0 b1 b2 b3, ae_cons (h7) (ae_cons (h7) (ae_cons (h6) (ae_cons (h6) (ae_cons (h6) (ae_cons (h6) (ae_cons (h6) (ae_cons (h5) (ae_cons (h5) (ae_cons (h5) (ae_cons (h5) (ae_cons (h5) (ae_cons (h5) (ae_cons (h5) (ae_cons (h5) (ae_cons (h5) (ae_cons (h4) (ae_cons (h4) (ae_cons (h4) (ae_cons (h4) (ae_cons (h4) (ae_cons (h3) (ae_cons (h3) (ae_cons (h3) (ae_cons (h3) (ae_cons (h3) (ae_cons (h3) (ae_cons (h3) (ae_cons (h3) (ae_cons (h3) (ae_cons (h2) (ae_cons (h2) (ae_cons (h2) (ae_cons (h2) (ae_cons (h2) (ae_cons (h1) (ae_cons (h1) (ae_cons (h1) (ae_cons (h1) (ae_cons (h1) (ae_cons (h1) (ae_cons (h1) (ae_cons (h1) (ae_cons (h1) (ae_cons (h0) (ae_cons (h0) (ae_cons (h0) (ae_cons (h0) (ae_cons (h0) (ae_nil)))))))))))))))))))))))))))))))))))))))))))))))))⟩
                · rw [cond_f h6] at hF
                  rcases bool_cases (a0 == b0 && (a1 == b1 && (a2 == b2 && (a3 == b3 && true)))) with h7 | h7
                  · rw [cond_t h7] at hF
                    cases hF
                    exact ⟨2000, [none, none, none, none, none, none, none, none, none, none, some true, some true, some true, some true, some true, none, some true, some true, some true, some true, some true, some true, some true, some true, some true, some true, some true, some true, some true, some true, none, some true, some true, some true, some true, some true, some true, some true, some true, some true, some true, some true, some true, some true, some true, none, some true, some true, some true, some true, some true, some true, some true, some true, some true, some false, some false, some false, some false, some false, none, some true, some true], _, qsameR3 a0 a1 a2 a3 b0 b1 b2 b3, ae_cons (h7) (ae_cons (h7) (ae_cons (h6) (ae_cons (h6) (ae_cons (h6) (ae_cons (h6) (ae_cons (h6) (ae_cons (h5) (ae_cons (h5) (ae_cons (h5) (ae_cons (h5) (ae_cons (h5) (ae_cons (h5) (ae_cons (h5) (ae_cons (h5) (ae_cons (h5) (ae_cons (h4) (ae_cons (h4) (ae_cons (h4) (ae_cons (h4) (ae_cons (h4) (ae_cons (h3) (ae_cons (h3) (ae_cons (h3) (ae_cons (h3) (ae_cons (h3) (ae_cons (h3) (ae_cons (h3) (ae_cons (h3) (ae_cons (h3) (ae_cons (h2) (ae_cons (h2) (ae_cons (h2) (ae_cons (h2) (ae_cons (h2) (ae_cons (h1) (ae_cons (h1) (ae_cons (h1) (ae_cons (h1) (ae_cons (h1) (ae_cons (h1) (ae_cons (h1) (ae_cons (h1) (ae_cons (h1) (ae_cons (h0) (ae_cons (h0) (ae_cons (h0) (ae_cons (h0) (ae_cons (h0) (ae_nil)))))))))))))))))))))))))))))))))))))))))))))))))⟩
                  · rw [cond_f h7] at hF
                    cases hF
                    exact ⟨2000, [none, none, none, none, none, none, none, none, none, none, some true, some true, some true, some true, some true, none, some true, some true, some true, some true, some true, some true, some true, some true, some true, some true, some true, some true, some true, some true, none, some true, some true, some true, some true, some true, some true, some true, some true, some true, some true, some true, some true, some true, some true, none, some true, some true, some true, some true, some true, some true, some true, some true, some true, some false, some false, some false, some false, some false, none, some false, some false], _, qsameR4 a0 a1 a2 a3 b0 b1 b2 b3, ae_cons (h7) (ae_cons (h7) (ae_cons (h6) (ae_cons (h6) (ae_cons (h6) (ae_cons (h6) (ae_cons (h6) (ae_cons (h5) (ae_cons (h5) (ae_cons (h5) (ae_cons (h5) (ae_cons (h5) (ae_cons (h5) (ae_cons (h5) (ae_cons (h5) (ae_cons (h5) (ae_cons (h4) (ae_cons (h4) (ae_cons (h4) (ae_cons (h4) (ae_cons (h4) (ae_cons (h3) (ae_cons (h3) (ae_cons (h3) (ae_cons (h3) (ae_cons (h3) (ae_cons (h3) (ae_cons (h3) (ae_cons (h3) (ae_cons (h3) (ae_cons (h2) (ae_cons (h2) (ae_cons (h2) (ae_cons (h2) (ae_cons (h2) (ae_cons (h1) (ae_cons (h1) (ae_cons (h1) (ae_cons (h1) (ae_cons (h1) (ae_cons (h1) (ae_cons (h1) (ae_cons (h1) (ae_cons (h1) (ae_cons (h0) (ae_cons (h0) (ae_cons (h0) (ae_cons (h0) (ae_cons (h0) (ae_nil)))))))))))))))))))))))))))))))))))))))))))))))))⟩
              · rw [cond_f h5] at hF
                rcases bool_cases (a0 == b0 && (a1 == b1 && (a2 == b2 && (a3 == b3 && true)))) with h6 | h6
                · rw [cond_t h6] at hF
                  cases hF
                  exact ⟨2000, [none, none, none, none, none, none, none, none, none, none, some true, some true, some true, some true, some true, none, some true, some true, some true, some true, some true, some true, some true, some true, some true, some true, some true, some true, some true, some true, none, some true, some true, some true, some true, some true, some true, some true, some true, some true, some true, some true, some true, some true, some true, none, some false, some false, some false, some false, some false, some false, some false, some false, some false, none, none, none, none, none, none, some true, some true], _, qsameR5 a0 a1 a2 a3 b0 b1 b2 b3, ae_cons (h6) (ae_cons (h6) (ae_cons (h5) (ae_cons (h5) (ae_cons (h5) (ae_cons (h5) (ae_cons (h5) (ae_cons (h5) (ae_cons (h5) (ae_cons (h5) (ae_cons (h5) (ae_cons (h4) (ae_cons (h4) (ae_cons (h4) (ae_cons (h4) (ae_cons (h4) (ae_cons (h3) (ae_cons (h3) (ae_cons (h3) (ae_cons (h3) (ae_cons (h3) (ae_cons (h3) (ae_cons (h3) (ae_cons (h3) (ae_cons (h3) (ae_cons (h2) (ae_cons (h2) (ae_cons (h2) (ae_cons (h2) (ae_cons (h2) (ae_cons (h1) (ae_cons (h1) (ae_cons (h1) (ae_cons (h1) (ae_cons (h1) (ae_cons (h1) (ae_cons (h1) (ae_cons (h1) (ae_cons (h1) (ae_cons (h0) (ae_cons (h0) (ae_cons (h0) (ae_cons (h0) (ae_cons (h0) (ae_nil))))))))))))))))))))))))))))))))))))))))))))⟩
                · rw [cond_f h6] at hF
                  cases hF
                  exact ⟨2000, [none, none, none, none, none, none, none, none, none, none, some true, some true, some true, some true, some true, none, some true, some true, some true, some true, some true, some true, some true, some true, some true, some true, some true, some true, some true, some true, none, some true, some true, some true, some true, some true, some true, some true, some true, some true, some true, some true, some true, some true, some true, none, some false, some false, some false, some false, some false, some false, some false, some false, some false, none, none, none, none, none, none, some false, some false], _, qsameR6 a0 a1 a2 a3 b0 b1 b2 b3, ae_cons (h6) (ae_cons (h6) (ae_cons (h5) (ae_cons (h5) (ae_cons (h5) (ae_cons (h5) (ae_cons (h5) (ae_cons (h5) (ae_cons (h5) (ae_cons (h5) (ae_cons (h5) (ae_cons (h4) (ae_cons (h4) (ae_cons (h4) (ae_cons (h4) (ae_cons (h4) (ae_cons (h3) (ae_cons (h3) (ae_cons (h3) (ae_cons (h3) (ae_cons (h3) (ae_cons (h3) (ae_cons (h3) (ae_cons (h3) (ae_cons (h3) (ae_cons (h2) (ae_cons (h2) (ae_cons (h2) (ae_cons (h2) (ae_cons (h2) (ae_cons (h1) (ae_cons (h1) (ae_cons (h1) (ae_cons (h1) (ae_cons (h1) (ae_cons (h1) (ae_cons (h1) (ae_cons (h1) (ae_cons (h1) (ae_cons (h0) (ae_cons (h0) (ae_cons (h0) (ae_cons (h0) (ae_cons (h0) (ae_nil))))))))))))))))))))))))))))))))))))))))))))⟩
            · rw [cond_f h4] at hF
              rcases bool_cases (a0 == b0 && (a1 == b1 && (a2 == b2 && (a3 == b3 && true)))) with h5 | h5
              · rw [cond_t h5] at hF
                cases hF
                exact ⟨2000, [none, none, none, none, none, none, none, none, none, none, some true, some true, some true, some true, some true, none, some true, some true, some true, some true, some true, some true, some true, some true, some true, some true, some true, some true, some true, some true, none, some true, some true, some true, some true, some true, some true, some true, some true, some true, some false, some false, some false, some false, some false, none, none, none, none, none, none, none, none, none, none, none, none, none, none, none, none, some true, some true], _, qsameR7 a0 a1 a2 a3 b0 b1 b2 b3, ae_cons (h5) (ae_cons (h5) (ae_cons (h4) (ae_cons (h4) (ae_cons (h4) (ae_cons (h4) (ae_cons (h4) (ae_cons (h3) (ae_cons (h3) (ae_cons (h3) (ae_cons (h3) (ae_cons (h3) (ae_cons (h3) (ae_cons (h3) (ae_cons (h3) (ae_cons (h3) (ae_cons (h2) (ae_cons (h2) (ae_cons (h2) (ae_cons (h2) (ae_cons (h2) (ae_cons (h1) (ae_cons (h1) (ae_cons (h1) (ae_cons (h1) (ae_cons (h1) (ae_cons (h1) (ae_cons (h1) (ae_cons (h1) (ae_cons (h1) (ae_cons (h0) (ae_cons (h0) (ae_cons (h0) (ae_cons (h0) (ae_cons (h0) (ae_nil)))))))))))))))))))))))))))))))))))⟩
              · rw [cond_f h5] at hF
                cases hF
                exact ⟨2000, [none, none, none, none, none, none, none, none, none, none, some true, some true, some true, some true, some true, none, some true, some true, some true, some true, some true, some true, some true, some true, some true, some true, some true, some true, some true, some true, none, some true, some true, some true, some true, some true, some true, some true, some true, some true, some false, some false, some false, some false, some false, none, none, none, none, none, none, none, none, none, none, none, none, none, none, none, none, some false, some false], _, qsameR8 a0 a1 a2 a3 b0 b1 b2 b3, ae_cons (h5) (ae_cons (h5) (ae_cons (h4) (ae_cons (h4) (ae_cons (h4) (ae_cons (h4) (ae_cons (h4) (ae_cons (h3) (ae_cons (h3) (ae_cons (h3) (ae_cons (h3) (ae_cons (h3) (ae_cons (h3) (ae_cons (h3) (ae_cons (h3) (ae_cons (h3) (ae_cons (h2) (ae_cons (h2) (ae_cons (h2) (ae_cons (h2) (ae_cons (h2) (ae_cons (h1) (ae_cons (h1) (ae_cons (h1) (ae_cons (h1) (ae_cons (h1) (ae_cons (h1) (ae_cons (h1) (ae_cons (h1) (ae_cons (h1) (ae_cons (h0) (ae_cons (h0) (ae_cons (h0) (ae_cons (h0) (ae_cons (h0) (ae_nil)))))))))))))))))))))))))))))))))))⟩
          · rw [cond_f h3] at hF
            rcases bool_cases (a0 == b0 && (a1 == b1 && (a2 == b2 && (a3 == b3 && true)))) with h4 | h4
            · rw [cond_t h4] at hF
              cases hF
              exact ⟨2000, [none, none, none, none, none, none, none, none, none, none, some true, some true, some true, some true, some true, none, some true, some true, some true, some true, some true, some true, some true, some true, some true, some true, some true, some true, some true, some true, none, some false, some false, some false, some false, some false, some false, some false, some false, some false, none, none, none, none, none, none, none, none, none, none, none, none, none, none, none, none, none, none, none, none, none, some true, some true], _, qsameR9 a0 a1 a2 a3 b0 b1 b2 b3, ae_cons (h4) (ae_cons (h4) (ae_cons (h3) (ae_cons (h3) (ae_cons (h3) (ae_cons (h3) (ae_cons (h3) (ae_cons (h3) (ae_cons (h3) (ae_cons (h3) (ae_cons (h3) (ae_cons (h2) (ae_cons (h2) (ae_cons (h2) (ae_cons (h2) (ae_cons (h2) (ae_cons (h1) (ae_cons (h1) (ae_cons (h1) (ae_cons (h1) (ae_cons (h1) (ae_cons (h1) (ae_cons (h1) (ae_cons (h1) (ae_cons (h1) (ae_cons (h0) (ae_cons (h0) (ae_cons (h0) (ae_cons (h0) (ae_cons (h0) (ae_nil))))))))))))))))))))))))))))))⟩
            · rw [cond_f h4] at hF
              cases hF
              exact ⟨2000, [none, none, none, none, none, none, none, none, none, none, some true, some true, some true, some true, some true, none, some true, some true, some true, some true, some true, some true, some true, some true, some true, some true, some true, some true, some true, some true, none, some false, some false, some false, some false, some false, some false, some false, some false, some false, none, none, none, none, none, none, none, none, none, none, none, none, none, none, none, none, none, none, none, none, none, some false, some false], _, qsameR10 a0 a1 a2 a3 b0 b1 b2 b3, ae_cons (h4) (ae_cons (h4) (ae_cons (h3) (ae_cons (h3) (ae_cons (h3) (ae_cons (h3) (ae_cons (h3) (ae_cons (h3) (ae_cons (h3) (ae_cons (h3) (ae_cons (h3) (ae_cons (h2) (ae_cons (h2) (ae_cons (h2) (ae_cons (h2) (ae_cons (h2) (ae_cons (h1) (ae_cons (h1) (ae_cons (h1) (ae_cons (h1) (ae_cons (h1) (ae_cons (h1) (ae_cons (h1) (ae_cons (h1) (ae_cons (h1) (ae_cons (h0) (ae_cons (h0) (ae_cons (h0) (ae_cons (h0) (ae_cons (h0) (ae_nil))))))))))))))))))))))))))))))⟩
        · rw [cond_f h2] at hF
          rcases bool_cases (a0 == b0 && (a1 == b1 && (a2 == b2 && (a3 == b3 && true)))) with h3 | h3
          · rw [cond_t h3] at hF
            cases hF
            exact ⟨2000, [none, none, none, none, none, none, none, none, none, none, some true, some true, some true, some true, some true, none, some true, some true, some true, some true, some true, some true, some true, some true, some true, some false, some false, some false, some false, some false, none, none, none, none, none, none, none, none, none, none, none, none, none, none, none, none, none, none, none, none, none, none, none, none, none, none, none, none, none, none, none, some true, some true], _, qsameR11 a0 a1 a2 a3 b0 b1 b2 b3, ae_cons (h3) (ae_cons (h3) (ae_cons (h2) (ae_cons (h2) (ae_cons (h2) (ae_cons (h2) (ae_cons (h2) (ae_cons (h1) (ae_cons (h1) (ae_cons (h1) (ae_cons (h1) (ae_cons (h1) (ae_cons (h1) (ae_cons (h1) (ae_cons (h1) (ae_cons (h1) (ae_cons (h0) (ae_cons (h0) (ae_cons (h0) (ae_cons (h0) (ae_cons (h0) (ae_nil)))))))))))))))))))))⟩
          · rw [cond_f h3] at hF
            cases hF
            exact ⟨2000, [none, none, none, none, none, none, none, none, none, none, some true, some true, some true, some true, some true, none, some true, some true, some true, some true, some true, some true, some true, some true, some true, some false, some false, some false, some false, some false, none, none, none, none, none, none, none, none, none, none, none, none, none, none, none, none, none, none, none, none, none, none, none, none, none, none, none, none, none, none, none, some false, some false], _, qsameR12 a0 a1 a2 a3 b0 b1 b2 b3, ae_cons (h3) (ae_cons (h3) (ae_cons (h2) (ae_cons (h2) (ae_cons (h2) (ae_cons (h2) (ae_cons (h2) (ae_cons (h1) (ae_cons (h1) (ae_cons (h1) (ae_cons (h1) (ae_cons (h1) (ae_cons (h1) (ae_cons (h1) (ae_cons (h1) (ae_cons (h1) (ae_cons (h0) (ae_cons (h0) (ae_cons (h0) (ae_cons (h0) (ae_cons (h0) (ae_nil)))))))))))))))))))))⟩
      · rw [cond_f h1] at hF
        rcases bool_cases (a0 == b0 && (a1 == b1 && (a2 == b2 && (a3 == b3 && true)))) with h2 | h2
        · rw [cond_t h2] at hF
          cases hF
          exact ⟨2000, [none, none, none, none, none, none, none, none, none, none, some true, some true, some true, some true, some true, none, some false, some false, some false, some false, some false, some false, some false, some false, some false, none, none, none, none, none, none, none, none, none, none, none, none, none, none, none, none, none, none, none, none, none, none, none, none, none, none, none, none, none, none, none, none, none, none, none, none, some true, some true], _, qsameR13 a0 a1 a2 a3 b0 b1 b2 b3, ae_cons (h2) (ae_cons (h2) (ae_cons (h1) (ae_cons (h1) (ae_cons (h1) (ae_cons (h1) (ae_cons (h1) (ae_cons (h1) (ae_cons (h1) (ae_cons (h1) (ae_cons (h1) (ae_cons (h0) (ae_cons (h0) (ae_cons (h0) (ae_cons (h0) (ae_cons (h0) (ae_nil))))))))))))))))⟩
        · rw [cond_f h2] at hF
          cases hF
          exact ⟨2000, [none, none, none, none, none, none, none, none, none, none, some true, some true, some true, some true, some true, none, some false, some false, some false, some false, some false, some false, some false, some false, some false, none, none, none, none, none, none, none, none, none, none, none, none, none, none, none, none, none, none, none, none, none, none, none, none, none, none, none, none, none, none, none, none, none, none, none, none, some false, some false], _, qsameR14 a0 a1 a2 a3 b0 b1 b2 b3, ae_cons (h2) (ae_cons (h2) (ae_cons (h1) (ae_cons (h1) (ae_cons (h1) (ae_cons (h1) (ae_cons (h1) (ae_cons (h1) (ae_cons (h1) (ae_cons (h1) (ae_cons (h1) (ae_cons (h0) (ae_cons (h0) (ae_cons (h0) (ae_cons (h0) (ae_cons (h0) (ae_nil))))))))))))))))⟩
    · rw [cond_f h0] at hF
      rcases bool_cases (a0 == b0 && (a1 == b1 && (a2 == b2 && (a3 == b3 && true)))) with h1 | h1
      · rw [cond_t h1] at hF
        cases hF
        exact ⟨2000, [none, none, none, none, none, none, none, none, none, none, some false, some false, some false, some false, some false, none, none, none, none, none, none, none, none, none, none, none, none, none, none, none, none, none, none, none, none, none, none, none, none, none, none, none, none, none, none, none, none, none, none, none, none, none, none, none, none, none, none, none, none, none, none, some true, some true], _, qsameR15 a0 a1 a2 a3 b0 b1 b2 b3, ae_cons (h1) (ae_cons (h1) (ae_cons (h0) (ae_cons (h0) (ae_cons (h0) (ae_cons (h0) (ae_cons (h0) (ae_nil)))))))⟩
      · rw [cond_f h1] at hF
        cases hF
        exact ⟨2000, [none, none, none, none, none, none, none, none, none, none, some false, some false, some false, some false, some false, none, none, none, none, none, none, none, none, none, none, none, none, none, none, none, none, none, none, none, none, none, none, none, none, none, none, none, none, none, none, none, none, none, none, none, none, none, none, none, none, none, none, none, none, none, none, some false, some false], _, qsameR16 a0 a1 a2 a3 b0 b1 b2 b3, ae_cons (h1) (ae_cons (h1) (ae_cons (h0) (ae_cons (h0) (ae_cons (h0) (ae_cons (h0) (ae_cons (h0) (ae_nil)))))))⟩
  · cases hF


/-- Are they the same rotation? -/
def sameB (a0 a1 a2 a3 b0 b1 b2 b3 : Int) : Bool :=
  (a0 == b0 && (a1 == b1 && (a2 == b2 && (a3 == b3 && true)))) || (a0 == wr IntKind.i64 (0 - b0) && (a0 != -9223372036854775808 && (a1 == wr IntKind.i64 (0 - b1) && (a1 != -9223372036854775808 && (a2 == wr IntKind.i64 (0 - b2) && (a2 != -9223372036854775808 && (a3 == wr IntKind.i64 (0 - b3) && a3 != -9223372036854775808)))))))
def sameS : List LV → Option (LV × List (Bool × Bool))
  | [.v (.agg [.int .i64 a0, .int .i64 a1, .int .i64 a2, .int .i64 a3]), .v (.agg [.int .i64 b0, .int .i64 b1, .int .i64 b2, .int .i64 b3])] => some (.v (.one (.bool (sameB a0 a1 a2 a3 b0 b1 b2 b3))), [])
  | _ => none
theorem same_eq (a0 a1 a2 a3 b0 b1 b2 b3 : Int) : qsameT a0 a1 a2 a3 b0 b1 b2 b3 = some (.v (.one (.bool (sameB a0 a1 a2 a3 b0 b1 b2 b3))), []) := by
  unfold qsameT sameB
  generalize (a0 == b0 && (a1 == b1 && (a2 == b2 && (a3 == b3 && true)))) = e
  generalize (a0 == wr IntKind.i64 (0 - b0)) = p0
  generalize (a0 != -9223372036854775808) = q0
  generalize (a1 == wr IntKind.i64 (0 - b1)) = p1
  generalize (a1 != -9223372036854775808) = q1
  generalize (a2 == wr IntKind.i64 (0 - b2)) = p2
  generalize (a2 != -9223372036854775808) = q2
  generalize (a3 == wr IntKind.i64 (0 - b3)) = p3
  generalize (a3 != -9223372036854775808) = q3
  cases p0 <;> cases q0 <;> cases p1 <;> cases q1 <;> cases p2 <;> cases q2 <;> cases p3 <;> cases e <;> simp
theorem sumSame : SumOK Try.prog 74 (pureSum sameS) := by
  refine sumqsame.pure_re fun args v cs hF hc => ?_
  unfold sameS at hF
  split at hF
  · cases hF
    exact ⟨[], same_eq _ _ _ _ _ _ _ _, ae_nil⟩
  · cases hF

/-- Made one of length One, twice. -/
def uE (x a0 a1 a2 a3 : Int) : Int := divPV (divPV x (hypV [a0, a1, a2, a3]) 30) (hypV [divPV a0 (hypV [a0, a1, a2, a3]) 30, divPV a1 (hypV [a0, a1, a2, a3]) 30, divPV a2 (hypV [a0, a1, a2, a3]) 30, divPV a3 (hypV [a0, a1, a2, a3]) 30]) 30
def uM (a0 a1 a2 a3 : Int) : Int := hypV [divPV a0 (hypV [a0, a1, a2, a3]) 30, divPV a1 (hypV [a0, a1, a2, a3]) 30, divPV a2 (hypV [a0, a1, a2, a3]) 30, divPV a3 (hypV [a0, a1, a2, a3]) 30]
def uH (h : Bool) (a0 a1 a2 a3 : Int) : Bool := h || hypH [a0, a1, a2, a3] || divPH a0 (hypV [a0, a1, a2, a3]) 30 || divPH a1 (hypV [a0, a1, a2, a3]) 30 || divPH a2 (hypV [a0, a1, a2, a3]) 30 || divPH a3 (hypV [a0, a1, a2, a3]) 30 || hypH [divPV a0 (hypV [a0, a1, a2, a3]) 30, divPV a1 (hypV [a0, a1, a2, a3]) 30, divPV a2 (hypV [a0, a1, a2, a3]) 30, divPV a3 (hypV [a0, a1, a2, a3]) 30] || divPH (divPV a0 (hypV [a0, a1, a2, a3]) 30) (uM a0 a1 a2 a3) 30 || divPH (divPV a1 (hypV [a0, a1, a2, a3]) 30) (uM a0 a1 a2 a3) 30 || divPH (divPV a2 (hypV [a0, a1, a2, a3]) 30) (uM a0 a1 a2 a3) 30 || divPH (divPV a3 (hypV [a0, a1, a2, a3]) 30) (uM a0 a1 a2 a3) 30
def uZ (a0 a1 a2 a3 : Int) : Bool := satV a0 == 0 && (satV a1 == 0 && (satV a2 == 0 && (satV a3 == 0 && true)))
def uS (h : Bool) (a0 a1 a2 a3 : Int) : Bool := h || satH a0 || satH a1 || satH a2 || satH a3
def unitS : List LV → Bool → Option (LV × Bool × List (Bool × Bool))
  | [.v (.agg [.int .i64 a0, .int .i64 a1, .int .i64 a2, .int .i64 a3])], hb => some (.v (.agg [.int .i64 (bif uZ a0 a1 a2 a3 then 1073741824 else uE (satV a0) (satV a0) (satV a1) (satV a2) (satV a3)), .int .i64 (bif uZ a0 a1 a2 a3 then 0 else uE (satV a1) (satV a0) (satV a1) (satV a2) (satV a3)), .int .i64 (bif uZ a0 a1 a2 a3 then 0 else uE (satV a2) (satV a0) (satV a1) (satV a2) (satV a3)), .int .i64 (bif uZ a0 a1 a2 a3 then 0 else uE (satV a3) (satV a0) (satV a1) (satV a2) (satV a3))]),
    (bif uZ a0 a1 a2 a3 then uS hb a0 a1 a2 a3 else uH (uS hb a0 a1 a2 a3) (satV a0) (satV a1) (satV a2) (satV a3)), [])
  | _, _ => none
def mulQ (a0 a1 a2 a3 b0 b1 b2 b3 : Int) : LV := .v (.agg [.int .i64 (dotV 30 [satV a0, satV a1, satV a2, satV a3] [satV b0, wr IntKind.i64 (0 - satV b1), wr IntKind.i64 (0 - satV b2), wr IntKind.i64 (0 - satV b3)]), .int .i64 (dotV 30 [satV a0, satV a1, satV a2, satV a3] [satV b1, satV b0, satV b3, wr IntKind.i64 (0 - satV b2)]), .int .i64 (dotV 30 [satV a0, satV a1, satV a2, satV a3] [satV b2, wr IntKind.i64 (0 - satV b3), satV b0, satV b1]), .int .i64 (dotV 30 [satV a0, satV a1, satV a2, satV a3] [satV b3, satV b2, wr IntKind.i64 (0 - satV b1), satV b0])])
def mulQH (h : Bool) (a0 a1 a2 a3 b0 b1 b2 b3 : Int) : Bool := h || satH a0 || satH a1 || satH a2 || satH a3 || satH b0 || satH b1 || satH b2 || satH b3 || dotH 30 [satV a0, satV a1, satV a2, satV a3] [satV b0, wr IntKind.i64 (0 - satV b1), wr IntKind.i64 (0 - satV b2), wr IntKind.i64 (0 - satV b3)] || dotH 30 [satV a0, satV a1, satV a2, satV a3] [satV b1, satV b0, satV b3, wr IntKind.i64 (0 - satV b2)] || dotH 30 [satV a0, satV a1, satV a2, satV a3] [satV b2, wr IntKind.i64 (0 - satV b3), satV b0, satV b1] || dotH 30 [satV a0, satV a1, satV a2, satV a3] [satV b3, satV b2, wr IntKind.i64 (0 - satV b1), satV b0]
def mulQS : List LV → Bool → Option (LV × Bool × List (Bool × Bool))
  | [.v (.agg [.int .i64 a0, .int .i64 a1, .int .i64 a2, .int .i64 a3]), .v (.agg [.int .i64 b0, .int .i64 b1, .int .i64 b2, .int .i64 b3])], hb => some (mulQ a0 a1 a2 a3 b0 b1 b2 b3, mulQH hb a0 a1 a2 a3 b0 b1 b2 b3, [])
  | _, _ => none
theorem puZ (a0 a1 a2 a3 : Int) (hb : Bool) : (runF Try.prog S34 Zl 2000 49 [A0, .v (.agg [.int .i64 a0, .int .i64 a1, .int .i64 a2, .int .i64 a3])] [(0, flag 26 hb)] 1 [some true]).map acc3 = some (.v (.agg [.int .i64 1073741824, .int .i64 0, .int .i64 0, .int .i64 0]), some (flag 26 (uS hb a0 a1 a2 a3)), [(uZ a0 a1 a2 a3, true)]) := by kernel_rfl
theorem puN (a0 a1 a2 a3 : Int) (hb : Bool) : (runF Try.prog S34 Zl 2000 49 [A0, .v (.agg [.int .i64 a0, .int .i64 a1, .int .i64 a2, .int .i64 a3])] [(0, flag 26 hb)] 1 [some false, none, none, none, none, none, none, none, none, none, none, none, none, none, none, none]).map acc3 = some (.v (.agg [.int .i64 (uE (satV a0) (satV a0) (satV a1) (satV a2) (satV a3)), .int .i64 (uE (satV a1) (satV a0) (satV a1) (satV a2) (satV a3)), .int .i64 (uE (satV a2) (satV a0) (satV a1) (satV a2) (satV a3)), .int .i64 (uE (satV a3) (satV a0) (satV a1) (satV a2) (satV a3))]), some (flag 26 (uH (uS hb a0 a1 a2 a3) (satV a0) (satV a1) (satV a2) (satV a3))), [(uZ a0 a1 a2 a3, false)]) := by kernel_rfl
theorem sumpu : SumOK Try.prog 49 (accSum 26 unitS) := by
  refine accSum_run (z := Zl) sound34 (own_of sound34 Try.func49 (by kernel_rfl)) fun args hb v h' cs hF hc => ?_
  unfold unitS at hF
  split at hF
  · rename_i a0 a1 a2 a3
    cases hF
    refine ⟨rfl, ?_⟩
    rcases bool_cases (uZ a0 a1 a2 a3) with h | h
    · rw [h]; exact ⟨2000, _, _, puZ a0 a1 a2 a3 hb, ae_cons h ae_nil⟩
    · rw [h]; exact ⟨2000, _, _, puN a0 a1 a2 a3 hb, ae_cons h ae_nil⟩
  · cases hF
theorem pmR (a0 a1 a2 a3 b0 b1 b2 b3 : Int) (hb : Bool) : (runF Try.prog S34 Zl 2000 36 [A0, .v (.agg [.int .i64 a0, .int .i64 a1, .int .i64 a2, .int .i64 a3]), .v (.agg [.int .i64 b0, .int .i64 b1, .int .i64 b2, .int .i64 b3])] [(0, flag 26 hb)] 1 []).map acc3 = some (mulQ a0 a1 a2 a3 b0 b1 b2 b3, some (flag 26 (mulQH hb a0 a1 a2 a3 b0 b1 b2 b3)), []) := by kernel_rfl
theorem sumpm : SumOK Try.prog 36 (accSum 26 mulQS) := by
  refine accSum_run (z := Zl) sound34 (own_of sound34 Try.func36 (by kernel_rfl)) fun args hb v h' cs hF hc => ?_
  unfold mulQS at hF
  split at hF
  · rename_i a0 a1 a2 a3 b0 b1 b2 b3
    cases hF
    exact ⟨rfl, 2000, _, _, pmR a0 a1 a2 a3 b0 b1 b2 b3 hb, ae_nil⟩
  · cases hF
theorem runAwakeQ : (runF Try.prog S24 Zc 4000 34 [] [] 0 []).map (fun r => (r.1, r.2.2.2)) = some (B true, []) := by kernel_rfl
theorem sumAwakeQ : SumOK Try.prog 34 (pureSum trueF) := pureSum_const sound24 (own_of sound24 Try.func34 (by kernel_rfl)) runAwakeQ
noncomputable def S41 : FuncId → Option SumK := more (more (more (more S34 74 (pureSum sameS)) 49 (accSum 26 unitS)) 36 (accSum 26 mulQS)) 34 (pureSum trueF)
theorem sound41 : Sound Try.prog S41 := (((sound34.more sumSame).more sumpu).more sumpm).more sumAwakeQ
end Go.Proofs.Ytnabopepomjncaa

/- Rotations' matrices in both answers: the second answer's Of, Apply, Back in the program's words. -/
namespace Go.Proofs.Ytnabopepomjncaa
open Go.Lr
set_option linter.unusedVariables false
set_option linter.unusedSimpArgs false

def inS (a : Int) : Prop := -1152921504606846976 ≤ a ∧ a ≤ 1152921504606846976
theorem inS_sat (a : Int) : inS (satV a) := sat_bd a
theorem wneg {a : Int} (h : inS a) : wr IntKind.i64 (0 - a) = -a := by
  unfold inS at h
  have := w64_in (x := 0 - a) (by omega) (by omega); rw [wr_i, this]; omega
theorem inS_neg {a : Int} (h : inS a) : inS (-a) := by unfold inS at *; omega
theorem wone {a : Int} (h : inS a) : wr IntKind.i64 (1 * a) = a := by
  unfold inS at h; rw [Int.one_mul]; exact w64_in (by omega) (by omega)
theorem wmone {a : Int} (h : inS a) : wr IntKind.i64 (-1 * a) = -a := by
  unfold inS at h
  have e : -1 * a = -a := by omega
  rw [e]; exact w64_in (by omega) (by omega)
theorem dot4 {x0 x1 x2 x3 y0 y1 y2 y3 : Int} (a0 : inS x0) (a1 : inS x1) (a2 : inS x2) (a3 : inS x3) (b0 : inS y0) (b1 : inS y1) (b2 : inS y2) (b3 : inS y3) :
    dotV 30 [x0, x1, x2, x3] [y0, y1, y2, y3] = rndS (x0 * y0 + (x1 * y1 + (x2 * y2 + (x3 * y3 + 0)))) 30 ∧ dotH 30 [x0, x1, x2, x3] [y0, y1, y2, y3] = rndH (x0 * y0 + (x1 * y1 + (x2 * y2 + (x3 * y3 + 0)))) 30 := by
  have e : dotS [x0, x1, x2, x3] [y0, y1, y2, y3] = x0 * y0 + (x1 * y1 + (x2 * y2 + (x3 * y3 + 0))) := by
    simp only [dotS]
    rw [sat_in a0.1 a0.2, sat_in a1.1 a1.2, sat_in a2.1 a2.2, sat_in a3.1 a3.2, sat_in b0.1 b0.2, sat_in b1.1 b1.2, sat_in b2.1 b2.2, sat_in b3.1 b3.2]
  have f : dotFl [x0, x1, x2, x3] [y0, y1, y2, y3] = false := by
    simp only [dotFl]
    rw [satH_in a0.1 a0.2, satH_in a1.1 a1.2, satH_in a2.1 a2.2, satH_in a3.1 a3.2, satH_in b0.1 b0.2, satH_in b1.1 b1.2, satH_in b2.1 b2.2, satH_in b3.1 b3.2]
    rfl
  refine ⟨?_, ?_⟩
  · show rndS (dotS [x0, x1, x2, x3] [y0, y1, y2, y3]) 30 = _; rw [e]
  · show (dotFl [x0, x1, x2, x3] [y0, y1, y2, y3] || rndH (dotS [x0, x1, x2, x3] [y0, y1, y2, y3]) 30) = _; rw [e, f]; rfl
theorem dot4_eq {x0 x1 x2 x3 y0 y1 y2 y3 u0 u1 u2 u3 v0 v1 v2 v3 : Int} (a0 : inS x0) (a1 : inS x1) (a2 : inS x2) (a3 : inS x3) (b0 : inS y0) (b1 : inS y1) (b2 : inS y2) (b3 : inS y3)
    (c0 : inS u0) (c1 : inS u1) (c2 : inS u2) (c3 : inS u3) (d0 : inS v0) (d1 : inS v1) (d2 : inS v2) (d3 : inS v3) (h : x0 * y0 + (x1 * y1 + (x2 * y2 + (x3 * y3 + 0))) = u0 * v0 + (u1 * v1 + (u2 * v2 + (u3 * v3 + 0)))) :
    dotV 30 [x0, x1, x2, x3] [y0, y1, y2, y3] = dotV 30 [u0, u1, u2, u3] [v0, v1, v2, v3] ∧ dotH 30 [x0, x1, x2, x3] [y0, y1, y2, y3] = dotH 30 [u0, u1, u2, u3] [v0, v1, v2, v3] := by
  obtain ⟨e1, e2⟩ := dot4 a0 a1 a2 a3 b0 b1 b2 b3
  obtain ⟨f1, f2⟩ := dot4 c0 c1 c2 c3 d0 d1 d2 d3
  rw [e1, e2, f1, f2, h]; exact ⟨rfl, rfl⟩
/-- The minus on the other list. -/
theorem t1_neg {a b d e : Int} (ha : inS a) (hb : inS b) (hd : inS d) (he : inS e) :
    dotV 30 [a, a, d, d] [b, b, wr IntKind.i64 (0 - e), wr IntKind.i64 (0 - e)] = t1V a b (wr IntKind.i64 (0 - d)) e ∧ dotH 30 [a, a, d, d] [b, b, wr IntKind.i64 (0 - e), wr IntKind.i64 (0 - e)] = t1H a b (wr IntKind.i64 (0 - d)) e := by
  unfold t1V t1H
  rw [wneg hd, wneg he]
  exact dot4_eq ha ha hd hd hb hb (inS_neg he) (inS_neg he) ha ha (inS_neg hd) (inS_neg hd) hb hb he he (by rw [Int.mul_neg, Int.neg_mul])
theorem t1_swap {a b d e : Int} (ha : inS a) (hb : inS b) (hd : inS d) (he : inS e) : t1V b a d e = t1V a b d e ∧ t1H b a d e = t1H a b d e := by
  unfold t1V t1H
  exact dot4_eq hb hb hd hd ha ha he he ha ha hd hd hb hb he he (by rw [Int.mul_comm b a])
theorem s1_a {a b c d : Int} (ha : inS a) (hb : inS b) (hc : inS c) (hd : inS d) :
    dotV 30 [a, b, wr IntKind.i64 (0 - c), wr IntKind.i64 (0 - d)] [a, b, c, d] = s1V 1 1 (-1) (-1) a b c d ∧ dotH 30 [a, b, wr IntKind.i64 (0 - c), wr IntKind.i64 (0 - d)] [a, b, c, d] = s1H 1 1 (-1) (-1) a b c d := by
  unfold s1V s1H
  rw [wneg hc, wneg hd, wone ha, wone hb, wmone hc, wmone hd]
  exact dot4_eq ha hb (inS_neg hc) (inS_neg hd) ha hb hc hd ha hb hc hd ha hb (inS_neg hc) (inS_neg hd) (by simp only [Int.mul_neg, Int.neg_mul])
theorem s1_b {a b c d : Int} (ha : inS a) (hb : inS b) (hc : inS c) (hd : inS d) :
    dotV 30 [a, c, wr IntKind.i64 (0 - d), wr IntKind.i64 (0 - b)] [a, c, d, b] = s1V 1 (-1) 1 (-1) a b c d ∧ dotH 30 [a, c, wr IntKind.i64 (0 - d), wr IntKind.i64 (0 - b)] [a, c, d, b] = s1H 1 (-1) 1 (-1) a b c d := by
  unfold s1V s1H
  rw [wneg hd, wneg hb, wone ha, wone hc, wmone hb, wmone hd]
  exact dot4_eq ha hc (inS_neg hd) (inS_neg hb) ha hc hd hb ha hb hc hd ha (inS_neg hb) hc (inS_neg hd) (by simp only [Int.mul_neg, Int.neg_mul]; generalize a * a = p; generalize b * b = q; generalize c * c = r; generalize d * d = s; omega)
theorem s1_c {a b c d : Int} (ha : inS a) (hb : inS b) (hc : inS c) (hd : inS d) :
    dotV 30 [a, d, wr IntKind.i64 (0 - b), wr IntKind.i64 (0 - c)] [a, d, b, c] = s1V 1 (-1) (-1) 1 a b c d ∧ dotH 30 [a, d, wr IntKind.i64 (0 - b), wr IntKind.i64 (0 - c)] [a, d, b, c] = s1H 1 (-1) (-1) 1 a b c d := by
  unfold s1V s1H
  rw [wneg hb, wneg hc, wone ha, wone hd, wmone hb, wmone hc]
  exact dot4_eq ha hd (inS_neg hb) (inS_neg hc) ha hd hb hc ha hb hc hd ha (inS_neg hb) (inS_neg hc) hd (by simp only [Int.mul_neg, Int.neg_mul]; generalize a * a = p; generalize b * b = q; generalize c * c = r; generalize d * d = s; omega)
end Go.Proofs.Ytnabopepomjncaa

/- The second answer's matrix of a quaternion: its run (printed), in the program's words. -/
namespace Go.Proofs.Ytnabopepomjncaa
open Go.Lr
set_option linter.unusedVariables false
set_option linter.unusedSimpArgs false

end Go.Proofs.Ytnabopepomjncaa

/- Headings in both answers: their runs, against what they compute. -/
namespace Go.Proofs.Ytnabopepomjncaa
open Go.Lr
set_option linter.unusedVariables false
set_option linter.unusedSimpArgs false

noncomputable def S42 : FuncId → Option SumK := more S39 49 (accSum 26 unitS)
theorem sound42 : Sound Try.prog S42 := sound39.more sumpu

def acc3S (ty : TypeId) (r : Option (LV × Bool × List (Bool × Bool))) : Option (LV × Option Blk × List (Bool × Bool)) := r.map fun q => (q.1, some (flag ty q.2.1), q.2.2)
/-- The rotation that heads so; the heading of a rotation. -/
def fyS : List LV → Bool → Option (LV × Bool × List (Bool × Bool))
  | [.v (.one (.int .i64 a))], hb => unitS [.v (.agg [.int .i64 (cosV (mulV (wrapV a) 536870912 30)), .int .i64 0, .int .i64 0, .int .i64 (sinV (mulV (wrapV a) 536870912 30))])] (sinH (mulV (wrapV a) 536870912 30) (cosH (mulV (wrapV a) 536870912 30) (hb || mulH (wrapV a) 536870912 30)))
  | _, _ => none
def yawS : List LV → Bool → Option (LV × Bool × List (Bool × Bool))
  | [.v (.agg [.int .i64 a0, .int .i64 a1, .int .i64 a2, .int .i64 a3])], hb => match rofF [.v (.agg [.int .i64 a0, .int .i64 a1, .int .i64 a2, .int .i64 a3])] hb with
    | some (_, h, _) => some (I (atanV (t1V (satV a1) (satV a2) (satV a0) (satV a3)) (s1V 1 1 (-1) (-1) (satV a0) (satV a1) (satV a2) (satV a3))), atanH (t1V (satV a1) (satV a2) (satV a0) (satV a3)) (s1V 1 1 (-1) (-1) (satV a0) (satV a1) (satV a2) (satV a3)) h, [])
    | none => none
  | _, _ => none
theorem pfyR (a : Int) (hb : Bool) : (runF Try.prog S42 Zl 2000 47 [A0, I a] [(0, flag 26 hb)] 1 []).map acc3 = acc3S 26 (fyS [I a] hb) := by kernel_rfl
end Go.Proofs.Ytnabopepomjncaa

/- Exponentials in both answers: their runs, against what they compute. -/
namespace Go.Proofs.Ytnabopepomjncaa
open Go.Lr
set_option linter.unusedVariables false
set_option linter.unusedSimpArgs false

def exN (v0 v1 v2 : Int) : Int := hypV [satV v0, satV v1, satV v2]
def exH0 (h : Bool) (v0 v1 v2 : Int) : Bool := h || satH v0 || satH v1 || satH v2 || hypH [satV v0, satV v1, satV v2]
def exA (v0 v1 v2 : Int) : Int := mulV (exN v0 v1 v2) 536870912 30
def exS (v0 v1 v2 : Int) : Int := divPV (sinV (exA v0 v1 v2)) (exN v0 v1 v2) 30
def exH1 (h : Bool) (v0 v1 v2 : Int) : Bool := cosH (exA v0 v1 v2) (sinH (exA v0 v1 v2) (exH0 h v0 v1 v2 || mulH (exN v0 v1 v2) 536870912 30) || divPH (sinV (exA v0 v1 v2)) (exN v0 v1 v2) 30) || mulH (satV v0) (exS v0 v1 v2) 30 || mulH (satV v1) (exS v0 v1 v2) 30 || mulH (satV v2) (exS v0 v1 v2) 30
def exB (v0 v1 v2 : Int) (hb : Bool) : Option (LV × Bool × List (Bool × Bool)) := unitS [.v (.agg [.int .i64 (cosV (exA v0 v1 v2)), .int .i64 (mulV (satV v0) (exS v0 v1 v2) 30), .int .i64 (mulV (satV v1) (exS v0 v1 v2) 30), .int .i64 (mulV (satV v2) (exS v0 v1 v2) 30)])] (exH1 hb v0 v1 v2)
def withAsk (c : Bool × Bool) (r : Option (LV × Option Blk × List (Bool × Bool))) : Option (LV × Option Blk × List (Bool × Bool)) := r.map fun q => (q.1, q.2.1, c :: q.2.2)
end Go.Proofs.Ytnabopepomjncaa

/- Headings and exponentials in both answers: their summaries; turning vectors. -/
namespace Go.Proofs.Ytnabopepomjncaa
open Go.Lr
set_option linter.unusedVariables false
set_option linter.unusedSimpArgs false

theorem unitS_inv {a0 a1 a2 a3 : Int} {hb : Bool} : ∃ v h, unitS [.v (.agg [.int .i64 a0, .int .i64 a1, .int .i64 a2, .int .i64 a3])] hb = some (v, h, []) ∧ v.ok noP = true := ⟨_, _, rfl, rfl⟩
theorem acc3S_some {ty : TypeId} {r : Option (LV × Bool × List (Bool × Bool))} {v : LV} {h : Bool} {cs : List (Bool × Bool)} (e : r = some (v, h, cs)) : acc3S ty r = some (v, some (flag ty h), cs) := by subst e; rfl
theorem sumPfy : SumOK Try.prog 47 (accSum 26 fyS) := by
  refine accSum_run (z := Zl) sound42 (own_of sound42 Try.func47 (by kernel_rfl)) fun args hb v h' cs hF hc => ?_
  have hF0 := hF
  unfold fyS at hF
  split at hF
  · rename_i a
    obtain ⟨v1, h1, e, ok⟩ := unitS_inv (a0 := cosV (mulV (wrapV a) 536870912 30)) (a1 := 0) (a2 := 0) (a3 := sinV (mulV (wrapV a) 536870912 30)) (hb := sinH (mulV (wrapV a) 536870912 30) (cosH (mulV (wrapV a) 536870912 30) (hb || mulH (wrapV a) 536870912 30)))
    have hF1 := hF
    rw [e] at hF1
    cases hF1
    exact ⟨ok, 2000, [], _, (pfyR a hb).trans (acc3S_some hF0), ae_nil⟩
  · cases hF
end Go.Proofs.Ytnabopepomjncaa

/- Exponentials in both answers: their summaries; the second answer's turning of vectors. -/
namespace Go.Proofs.Ytnabopepomjncaa
open Go.Lr
set_option linter.unusedVariables false
set_option linter.unusedSimpArgs false

def expS : List LV → Bool → Option (LV × Bool × List (Bool × Bool))
  | [.v (.agg [.int .i64 v0, .int .i64 v1, .int .i64 v2])], hb => bif exN v0 v1 v2 == 0 then some (.v (.agg [.int .i64 1073741824, .int .i64 0, .int .i64 0, .int .i64 0]), exH0 hb v0 v1 v2, []) else exB v0 v1 v2 hb
  | _, _ => none
theorem exB_inv (v0 v1 v2 : Int) (hb : Bool) : ∃ v h, exB v0 v1 v2 hb = some (v, h, []) ∧ v.ok noP = true := unitS_inv
end Go.Proofs.Ytnabopepomjncaa

/- Tilts in both answers: the plain facts. -/
namespace Go.Proofs.Ytnabopepomjncaa
open Go.Lr
set_option linter.unusedVariables false
set_option linter.unusedSimpArgs false

theorem sqN (a : Int) : 0 ≤ a * a := by
  have h : 0 ≤ a ∨ a ≤ 0 := by omega
  rcases h with h | h
  · exact Int.mul_nonneg h h
  · exact Int.mul_nonneg_of_nonpos_of_nonpos h h
theorem absSq (a : Int) : absV a * absV a = a * a := by rw [← absV_mul, absV_pos (sqN a)]
theorem sqS3 (x y z : Int) : sqS (List.take 64 [x, y, z]) = satV x * satV x + (satV y * satV y + satV z * satV z) := by
  show satV x * satV x + (satV y * satV y + (satV z * satV z + 0)) = _
  omega
/-- A clamped number's square. -/
theorem sqb {s : Int} (h0 : -1152921504606846976 ≤ s) (h1 : s ≤ 1152921504606846976) : 0 ≤ s * s ∧ s * s ≤ 1329227995784915872903807060280344576 := by
  refine ⟨sqN s, ?_⟩
  have := prod_lt (a := s) (b := s) (k := 1152921504606846976) (l := 1152921504606846976) (by unfold absV; split <;> omega) (by unfold absV; split <;> omega)
  omega
theorem root_side {s N : Int} (h1 : s * s ≤ N) (hN : N < 340282366920938463463374607431768211456) : s ≤ rootW N ∧ -s ≤ rootW N := by
  have h0 := sqN s
  constructor
  · refine root_ge (by omega) hN ?_
    by_cases h : s ≤ 0
    · exact .inl h
    · exact .inr (by omega)
  · refine root_ge (by omega) hN ?_
    by_cases h : -s ≤ 0
    · exact .inl h
    · right
      have e : -s * -s = s * s := by grind
      omega
/-- A length is at least each side. -/
theorem exN_side (v0 v1 v2 : Int) : (satV v0 ≤ exN v0 v1 v2 ∧ -satV v0 ≤ exN v0 v1 v2) ∧ (satV v1 ≤ exN v0 v1 v2 ∧ -satV v1 ≤ exN v0 v1 v2) ∧ (satV v2 ≤ exN v0 v1 v2 ∧ -satV v2 ≤ exN v0 v1 v2) ∧ 0 ≤ exN v0 v1 v2 ∧ exN v0 v1 v2 ≤ 1152921504606846976 := by
  unfold exN hypV
  rw [sqS3, sat_sat, sat_sat, sat_sat]
  have b0 := sat_bd v0
  have b1 := sat_bd v1
  have b2 := sat_bd v2
  generalize satV v0 = a at *
  generalize satV v1 = b at *
  generalize satV v2 = c at *
  have q0 := sqb b0.1 b0.2
  have q1 := sqb b1.1 b1.2
  have q2 := sqb b2.1 b2.2
  have hN : a * a + (b * b + c * c) < 340282366920938463463374607431768211456 := by omega
  have s0 := root_side (s := a) (N := a * a + (b * b + c * c)) (by omega) hN
  have s1 := root_side (s := b) (N := a * a + (b * b + c * c)) (by omega) hN
  have s2 := root_side (s := c) (N := a * a + (b * b + c * c)) (by omega) hN
  generalize rootW (a * a + (b * b + c * c)) = r at *
  have hr := sat_bd r
  have : satV r = r ∨ 1152921504606846976 ≤ satV r := by
    unfold satV clampV at *
    clear hr
    (repeat' split) <;> omega
  omega
theorem exN_zero {v0 v1 v2 : Int} (h0 : satV v0 = 0) (h1 : satV v1 = 0) (h2 : satV v2 = 0) : exN v0 v1 v2 = 0 ∧ hypH [satV v0, satV v1, satV v2] = false := by
  unfold exN
  rw [h0, h1, h2]
  exact ⟨by kernel_rfl, by kernel_rfl⟩
def tlZ (v0 v1 v2 : Int) : Bool := satV v0 == 0 && (satV v1 == 0 && (satV v2 == 0 && true))
theorem tlZ_eq (v0 v1 v2 : Int) : tlZ v0 v1 v2 = (exN v0 v1 v2 == 0) := by
  have hs := exN_side v0 v1 v2
  unfold tlZ
  by_cases h : exN v0 v1 v2 = 0
  · have e0 : satV v0 = 0 := by omega
    have e1 : satV v1 = 0 := by omega
    have e2 : satV v2 = 0 := by omega
    rw [e0, e1, e2, h]
    rfl
  · have e : (exN v0 v1 v2 == 0) = false := by simpa using h
    rw [e]
    by_cases e0 : satV v0 = 0
    · by_cases e1 : satV v1 = 0
      · by_cases e2 : satV v2 = 0
        · exact absurd (exN_zero e0 e1 e2).1 h
        · simp [e2]
      · simp [e1]
    · simp [e0]
theorem tl_h {v0 v1 v2 : Int} (h : (exN v0 v1 v2 == 0) = true) (hb : Bool) : exH0 hb v0 v1 v2 = (hb || satH v0 || satH v1 || satH v2) := by
  have hs := exN_side v0 v1 v2
  have h : exN v0 v1 v2 = 0 := by simpa using h
  unfold exH0
  rw [(exN_zero (v0 := v0) (v1 := v1) (v2 := v2) (by omega) (by omega) (by omega)).2, Bool.or_false]
/-- Divided by a length: the bounds, the flag. -/
theorem dpass {v u : Int} (h0 : v ≤ u) (h1 : -v ≤ u) (h2 : 1 ≤ u) (h3 : u ≤ 1152921504606846976) :
    (-u ≤ 2 * (divPV v u 30 * u - v * 1073741824) ∧ 2 * (divPV v u 30 * u - v * 1073741824) ≤ u) ∧ (-1073741824 ≤ divPV v u 30 ∧ divPV v u 30 ≤ 1073741824) ∧ divPH v u 30 = false := by
  have key : ∀ w : Int, 0 ≤ w → w ≤ u → -u ≤ 2 * (divV (w * 1073741824) u * u - w * 1073741824) ∧ 2 * (divV (w * 1073741824) u * u - w * 1073741824) ≤ u := by
    intro w w0 w1
    rw [div_pos (a := w * 1073741824) (b := u) (by omega) (by omega)]
    exact quo_bd (by omega) (by omega)
  have odd : ∀ w : Int, divV (-w) u = -divV w u := by
    intro w
    unfold divV
    rw [absV_negate]
    have hu : decide (u < 0) = false := by simp; omega
    rw [hu]
    by_cases g0 : w = 0
    · subst g0
      have : quoR (absV 0) (absV u) = 0 := by
        rw [show absV 0 = 0 from rfl]
        exact quoR_zero (by unfold absV; split <;> omega)
      rw [this]; rfl
    · by_cases g1 : w < 0
      · have e1 : decide (w < 0) = true := by simpa using g1
        have e2 : decide (-w < 0) = false := by simp; omega
        rw [e1, e2]; unfold sgn; simp
      · have e1 : decide (w < 0) = false := by simp; omega
        have e2 : decide (-w < 0) = true := by simp; omega
        rw [e1, e2]; unfold sgn; simp
  have hd : -u ≤ 2 * (divV (v * 1073741824) u * u - v * 1073741824) ∧ 2 * (divV (v * 1073741824) u * u - v * 1073741824) ≤ u := by
    by_cases h : 0 ≤ v
    · exact key v h h0
    · have k := key (-v) (by omega) h1
      rw [show -v * 1073741824 = -(v * 1073741824) by omega, odd, Int.neg_mul] at k
      omega
  have e : pow2 (Int.toNat 30) = 1073741824 := rfl
  have hb : -1073741824 ≤ divV (v * 1073741824) u ∧ divV (v * 1073741824) u ≤ 1073741824 := by
    generalize divV (v * 1073741824) u = t at *
    constructor
    · rcases Int.lt_or_le t (-1073741824) with h | h
      · exfalso
        have : t * u ≤ -1073741825 * u := Int.mul_le_mul_of_nonneg_right (by omega) (by omega)
        omega
      · exact h
    · rcases Int.lt_or_le 1073741824 t with h | h
      · exfalso
        have : 1073741825 * u ≤ t * u := Int.mul_le_mul_of_nonneg_right (by omega) (by omega)
        omega
      · exact h
  have hs : -1152921504606846976 ≤ v ∧ v ≤ 1152921504606846976 := by omega
  have ev : divPV v u 30 = divV (v * 1073741824) u := by
    unfold divPV byV
    rw [if_neg (by decide), if_neg (by decide), e, sat_in (a := v) hs.1 hs.2, sat_in (a := u) (by omega) h3, if_neg (by omega), sat_in (by omega) (by omega)]
  refine ⟨by rw [ev]; exact hd, by rw [ev]; exact hb, ?_⟩
  unfold divPH byH
  rw [e, sat_in (a := v) hs.1 hs.2, sat_in (a := u) (by omega) h3, satH_in (a := v) hs.1 hs.2, satH_in (a := u) (by omega) h3, satH_in (a := divV (v * 1073741824) u) (by omega) (by omega)]
  have : (u == 0) = false := by simp; omega
  rw [this]; rfl

theorem sub_one {u : Int} (h0 : -1073741824 ≤ u) (h1 : u ≤ 1073741824) : subV 1073741824 u = wr .i64 (1073741824 - u) ∧ subH 1073741824 u = false := by
  unfold subV subH
  rw [sat_in (a := u) (by omega) (by omega), sat_in (a := 1073741824) (by omega) (by omega), satH_in (a := u) (by omega) (by omega), satH_in (a := 1073741824) (by omega) (by omega), satH_in (a := 1073741824 - u) (by omega) (by omega), sat_in (a := 1073741824 - u) (by omega) (by omega), wr_i, w64_in (by omega) (by omega)]
  exact ⟨rfl, rfl⟩

/-- What Unit makes: its four numbers, its flag. -/
def uV0 (a0 a1 a2 a3 : Int) : Int := bif uZ a0 a1 a2 a3 then 1073741824 else uE (satV a0) (satV a0) (satV a1) (satV a2) (satV a3)
def uV1 (a0 a1 a2 a3 : Int) : Int := bif uZ a0 a1 a2 a3 then 0 else uE (satV a1) (satV a0) (satV a1) (satV a2) (satV a3)
def uV2 (a0 a1 a2 a3 : Int) : Int := bif uZ a0 a1 a2 a3 then 0 else uE (satV a2) (satV a0) (satV a1) (satV a2) (satV a3)
def uV3 (a0 a1 a2 a3 : Int) : Int := bif uZ a0 a1 a2 a3 then 0 else uE (satV a3) (satV a0) (satV a1) (satV a2) (satV a3)
def uFl (h : Bool) (a0 a1 a2 a3 : Int) : Bool := bif uZ a0 a1 a2 a3 then uS h a0 a1 a2 a3 else uH (uS h a0 a1 a2 a3) (satV a0) (satV a1) (satV a2) (satV a3)
def tU (v v0 v1 v2 : Int) : Int := divPV (satV v) (exN v0 v1 v2) 30
theorem tU_sub {v0 v1 v2 : Int} (h : (exN v0 v1 v2 == 0) = false) : subV 1073741824 (tU v2 v0 v1 v2) = wr .i64 (1073741824 - tU v2 v0 v1 v2) ∧ subH 1073741824 (tU v2 v0 v1 v2) = false := by
  have h : exN v0 v1 v2 ≠ 0 := by simpa using h
  have hs := exN_side v0 v1 v2
  unfold tU
  have := (dpass (v := satV v2) (u := exN v0 v1 v2) (by omega) (by omega) (by omega) (by omega)).2.1
  exact sub_one this.1 this.2
end Go.Proofs.Ytnabopepomjncaa

/- Tilts in both answers: their runs, their summaries. -/
namespace Go.Proofs.Ytnabopepomjncaa
open Go.Lr
set_option linter.unusedVariables false
set_option linter.unusedSimpArgs false

def tlH (h : Bool) (v0 v1 v2 : Int) : Bool := exH0 h v0 v1 v2 || divPH (satV v0) (exN v0 v1 v2) 30 || divPH (satV v1) (exN v0 v1 v2) 30 || divPH (satV v2) (exN v0 v1 v2) 30
def tlB (w v0 v1 v2 : Int) (h : Bool) : Option (LV × Bool × List (Bool × Bool)) := unitS [.v (.agg [.int .i64 w, .int .i64 (wr IntKind.i64 (0 - tU v1 v0 v1 v2)), .int .i64 (tU v0 v0 v1 v2), .int .i64 0])] h
def tiltS : List LV → Bool → Option (LV × Bool × List (Bool × Bool))
  | [.v (.agg [.int .i64 v0, .int .i64 v1, .int .i64 v2])], hb => bif exN v0 v1 v2 == 0 then some (.v (.agg [.int .i64 1073741824, .int .i64 0, .int .i64 0, .int .i64 0]), exH0 hb v0 v1 v2, []) else
    bif decide (wr IntKind.i64 (1073741824 - tU v2 v0 v1 v2) ≤ 16) then some (.v (.agg [.int .i64 0, .int .i64 1073741824, .int .i64 0, .int .i64 0]), tlH hb v0 v1 v2, []) else tlB (wr IntKind.i64 (1073741824 - tU v2 v0 v1 v2)) v0 v1 v2 (tlH hb v0 v1 v2)
  | _, _ => none
theorem tlB_inv (w v0 v1 v2 : Int) (hb : Bool) : ∃ v h, tlB w v0 v1 v2 hb = some (v, h, []) ∧ v.ok noP = true := unitS_inv
def with2 (c d : Bool × Bool) (r : Option (LV × Option Blk × List (Bool × Bool))) : Option (LV × Option Blk × List (Bool × Bool)) := r.map fun q => (q.1, q.2.1, d :: c :: q.2.2)
end Go.Proofs.Ytnabopepomjncaa

/- Turned vectors in both answers; every function of rotations summed up. -/
namespace Go.Proofs.Ytnabopepomjncaa
open Go.Lr
set_option linter.unusedVariables false
set_option linter.unusedSimpArgs false

def apS : List LV → Bool → Option (LV × Bool × List (Bool × Bool))
  | [.v (.agg [.int .i64 m0, .int .i64 m1, .int .i64 m2, .int .i64 m3, .int .i64 m4, .int .i64 m5, .int .i64 m6, .int .i64 m7, .int .i64 m8]), .v (.agg [.int .i64 v0, .int .i64 v1, .int .i64 v2])], hb => some (.v (.agg [.int .i64 (dotV 30 [m0, m1, m2] [v0, v1, v2]), .int .i64 (dotV 30 [m3, m4, m5] [v0, v1, v2]), .int .i64 (dotV 30 [m6, m7, m8] [v0, v1, v2])]), (hb || dotH 30 [m0, m1, m2] [v0, v1, v2] || dotH 30 [m3, m4, m5] [v0, v1, v2] || dotH 30 [m6, m7, m8] [v0, v1, v2]), [])
  | _, _ => none
theorem papR (m0 m1 m2 m3 m4 m5 m6 m7 m8 v0 v1 v2 : Int) (hb : Bool) : (runF Try.prog S42 Zl 2000 106 [A0, .v (.agg [.int .i64 m0, .int .i64 m1, .int .i64 m2, .int .i64 m3, .int .i64 m4, .int .i64 m5, .int .i64 m6, .int .i64 m7, .int .i64 m8]), .v (.agg [.int .i64 v0, .int .i64 v1, .int .i64 v2])] [(0, flag 26 hb)] 1 []).map acc3 = some (.v (.agg [.int .i64 (dotV 30 [m0, m1, m2] [v0, v1, v2]), .int .i64 (dotV 30 [m3, m4, m5] [v0, v1, v2]), .int .i64 (dotV 30 [m6, m7, m8] [v0, v1, v2])]), some (flag 26 (hb || dotH 30 [m0, m1, m2] [v0, v1, v2] || dotH 30 [m3, m4, m5] [v0, v1, v2] || dotH 30 [m6, m7, m8] [v0, v1, v2])), []) := by kernel_rfl
theorem sumpap : SumOK Try.prog 106 (accSum 26 apS) := by
  refine accSum_run (z := Zl) sound42 (own_of sound42 Try.func106 (by kernel_rfl)) fun args hb v h' cs hF hc => ?_
  unfold apS at hF
  split at hF
  · cases hF
    exact ⟨rfl, 2000, [], _, papR _ _ _ _ _ _ _ _ _ _ _ _ hb, ae_nil⟩
  · cases hF
def bkS : List LV → Bool → Option (LV × Bool × List (Bool × Bool))
  | [.v (.agg [.int .i64 m0, .int .i64 m1, .int .i64 m2, .int .i64 m3, .int .i64 m4, .int .i64 m5, .int .i64 m6, .int .i64 m7, .int .i64 m8]), .v (.agg [.int .i64 v0, .int .i64 v1, .int .i64 v2])], hb => some (.v (.agg [.int .i64 (dotV 30 [m0, m3, m6] [v0, v1, v2]), .int .i64 (dotV 30 [m1, m4, m7] [v0, v1, v2]), .int .i64 (dotV 30 [m2, m5, m8] [v0, v1, v2])]), (hb || dotH 30 [m0, m3, m6] [v0, v1, v2] || dotH 30 [m1, m4, m7] [v0, v1, v2] || dotH 30 [m2, m5, m8] [v0, v1, v2]), [])
  | _, _ => none
theorem pbkR (m0 m1 m2 m3 m4 m5 m6 m7 m8 v0 v1 v2 : Int) (hb : Bool) : (runF Try.prog S42 Zl 2000 95 [A0, .v (.agg [.int .i64 m0, .int .i64 m1, .int .i64 m2, .int .i64 m3, .int .i64 m4, .int .i64 m5, .int .i64 m6, .int .i64 m7, .int .i64 m8]), .v (.agg [.int .i64 v0, .int .i64 v1, .int .i64 v2])] [(0, flag 26 hb)] 1 []).map acc3 = some (.v (.agg [.int .i64 (dotV 30 [m0, m3, m6] [v0, v1, v2]), .int .i64 (dotV 30 [m1, m4, m7] [v0, v1, v2]), .int .i64 (dotV 30 [m2, m5, m8] [v0, v1, v2])]), some (flag 26 (hb || dotH 30 [m0, m3, m6] [v0, v1, v2] || dotH 30 [m1, m4, m7] [v0, v1, v2] || dotH 30 [m2, m5, m8] [v0, v1, v2])), []) := by kernel_rfl
theorem sumpbk : SumOK Try.prog 95 (accSum 26 bkS) := by
  refine accSum_run (z := Zl) sound42 (own_of sound42 Try.func95 (by kernel_rfl)) fun args hb v h' cs hF hc => ?_
  unfold bkS at hF
  split at hF
  · cases hF
    exact ⟨rfl, 2000, [], _, pbkR _ _ _ _ _ _ _ _ _ _ _ _ hb, ae_nil⟩
  · cases hF
def eV0 (v0 v1 v2 : Int) : Int := bif exN v0 v1 v2 == 0 then 1073741824 else uV0 (cosV (exA v0 v1 v2)) (mulV (satV v0) (exS v0 v1 v2) 30) (mulV (satV v1) (exS v0 v1 v2) 30) (mulV (satV v2) (exS v0 v1 v2) 30)
def eV1 (v0 v1 v2 : Int) : Int := bif exN v0 v1 v2 == 0 then 0 else uV1 (cosV (exA v0 v1 v2)) (mulV (satV v0) (exS v0 v1 v2) 30) (mulV (satV v1) (exS v0 v1 v2) 30) (mulV (satV v2) (exS v0 v1 v2) 30)
def eV2 (v0 v1 v2 : Int) : Int := bif exN v0 v1 v2 == 0 then 0 else uV2 (cosV (exA v0 v1 v2)) (mulV (satV v0) (exS v0 v1 v2) 30) (mulV (satV v1) (exS v0 v1 v2) 30) (mulV (satV v2) (exS v0 v1 v2) 30)
def eV3 (v0 v1 v2 : Int) : Int := bif exN v0 v1 v2 == 0 then 0 else uV3 (cosV (exA v0 v1 v2)) (mulV (satV v0) (exS v0 v1 v2) 30) (mulV (satV v1) (exS v0 v1 v2) 30) (mulV (satV v2) (exS v0 v1 v2) 30)
def eFl (h : Bool) (v0 v1 v2 : Int) : Bool := bif exN v0 v1 v2 == 0 then exH0 h v0 v1 v2 else uFl (exH1 h v0 v1 v2) (cosV (exA v0 v1 v2)) (mulV (satV v0) (exS v0 v1 v2) 30) (mulV (satV v1) (exS v0 v1 v2) 30) (mulV (satV v2) (exS v0 v1 v2) 30)
def tV0 (v0 v1 v2 : Int) : Int := bif exN v0 v1 v2 == 0 then 1073741824 else bif decide (wr IntKind.i64 (1073741824 - tU v2 v0 v1 v2) ≤ 16) then 0 else uV0 (wr IntKind.i64 (1073741824 - tU v2 v0 v1 v2)) (wr IntKind.i64 (0 - tU v1 v0 v1 v2)) (tU v0 v0 v1 v2) 0
def tV1 (v0 v1 v2 : Int) : Int := bif exN v0 v1 v2 == 0 then 0 else bif decide (wr IntKind.i64 (1073741824 - tU v2 v0 v1 v2) ≤ 16) then 1073741824 else uV1 (wr IntKind.i64 (1073741824 - tU v2 v0 v1 v2)) (wr IntKind.i64 (0 - tU v1 v0 v1 v2)) (tU v0 v0 v1 v2) 0
def tV2 (v0 v1 v2 : Int) : Int := bif exN v0 v1 v2 == 0 then 0 else bif decide (wr IntKind.i64 (1073741824 - tU v2 v0 v1 v2) ≤ 16) then 0 else uV2 (wr IntKind.i64 (1073741824 - tU v2 v0 v1 v2)) (wr IntKind.i64 (0 - tU v1 v0 v1 v2)) (tU v0 v0 v1 v2) 0
def tV3 (v0 v1 v2 : Int) : Int := bif exN v0 v1 v2 == 0 then 0 else bif decide (wr IntKind.i64 (1073741824 - tU v2 v0 v1 v2) ≤ 16) then 0 else uV3 (wr IntKind.i64 (1073741824 - tU v2 v0 v1 v2)) (wr IntKind.i64 (0 - tU v1 v0 v1 v2)) (tU v0 v0 v1 v2) 0
def tFl (h : Bool) (v0 v1 v2 : Int) : Bool := bif exN v0 v1 v2 == 0 then exH0 h v0 v1 v2 else bif decide (wr IntKind.i64 (1073741824 - tU v2 v0 v1 v2) ≤ 16) then tlH h v0 v1 v2 else uFl (tlH h v0 v1 v2) (wr IntKind.i64 (1073741824 - tU v2 v0 v1 v2)) (wr IntKind.i64 (0 - tU v1 v0 v1 v2)) (tU v0 v0 v1 v2) 0
def expN : List LV → Bool → Option (LV × Bool × List (Bool × Bool))
  | [.v (.agg [.int .i64 v0, .int .i64 v1, .int .i64 v2])], hb => some (.v (.agg [.int .i64 (eV0 v0 v1 v2), .int .i64 (eV1 v0 v1 v2), .int .i64 (eV2 v0 v1 v2), .int .i64 (eV3 v0 v1 v2)]), eFl hb v0 v1 v2, [])
  | _, _ => none
theorem expN_eq (v0 v1 v2 : Int) (hb : Bool) : expS [.v (.agg [.int .i64 v0, .int .i64 v1, .int .i64 v2])] hb = expN [.v (.agg [.int .i64 v0, .int .i64 v1, .int .i64 v2])] hb := by
  unfold expS expN eV0 eV1 eV2 eV3 eFl
  rcases bool_cases (exN v0 v1 v2 == 0) with h | h
  · simp only [h, cond_true]
  · simp only [h, cond_false]; rfl
def tiltN : List LV → Bool → Option (LV × Bool × List (Bool × Bool))
  | [.v (.agg [.int .i64 v0, .int .i64 v1, .int .i64 v2])], hb => some (.v (.agg [.int .i64 (tV0 v0 v1 v2), .int .i64 (tV1 v0 v1 v2), .int .i64 (tV2 v0 v1 v2), .int .i64 (tV3 v0 v1 v2)]), tFl hb v0 v1 v2, [])
  | _, _ => none
theorem tiltN_eq (v0 v1 v2 : Int) (hb : Bool) : tiltS [.v (.agg [.int .i64 v0, .int .i64 v1, .int .i64 v2])] hb = tiltN [.v (.agg [.int .i64 v0, .int .i64 v1, .int .i64 v2])] hb := by
  unfold tiltS tiltN tV0 tV1 tV2 tV3 tFl
  rcases bool_cases (exN v0 v1 v2 == 0) with h | h
  · simp only [h, cond_true]
  · rcases bool_cases (decide (wr IntKind.i64 (1073741824 - tU v2 v0 v1 v2) ≤ 16)) with g | g
    · simp only [h, g, cond_true, cond_false]
    · simp only [h, g, cond_false]; rfl
noncomputable def S43 : FuncId → Option SumK := more (more (more S42 47 (accSum 26 fyS)) 106 (accSum 26 apS)) 95 (accSum 26 bkS)
theorem sound43 : Sound Try.prog S43 := ((sound42.more sumPfy).more sumpap).more sumpbk
end Go.Proofs.Ytnabopepomjncaa

/- The awake of chapter 7's law folder: its run; all summaries for its laws. -/
namespace Go.Proofs.Ytnabopepomjncaa
open Go.Lr
set_option linter.unusedVariables false
set_option linter.unusedSimpArgs false

noncomputable def S44 : FuncId → Option SumK := S43
theorem sound44 : Sound Try.prog S44 := sound43
end Go.Proofs.Ytnabopepomjncaa

/- Units: plain bounds of what Unit makes. -/
namespace Go.Proofs.Ytnabopepomjncaa
open Go.Lr
set_option linter.unusedVariables false
set_option linter.unusedSimpArgs false

theorem sqS4 (x y z w : Int) : sqS (List.take 64 [x, y, z, w]) = satV x * satV x + (satV y * satV y + (satV z * satV z + satV w * satV w)) := by
  show satV x * satV x + (satV y * satV y + (satV z * satV z + (satV w * satV w + 0))) = _
  omega
def n4 (a b c d : Int) : Int := a * a + (b * b + (c * c + d * d))
/-- A length of four. -/
theorem hyp4 {a b c d : Int} (ha : inS a) (hb : inS b) (hc : inS c) (hd : inS d) (h : 1 ≤ n4 a b c d) :
    (1 ≤ hypV [a, b, c, d] ∧ hypV [a, b, c, d] ≤ 1152921504606846976) ∧ (a ≤ hypV [a, b, c, d] ∧ -a ≤ hypV [a, b, c, d]) ∧ (b ≤ hypV [a, b, c, d] ∧ -b ≤ hypV [a, b, c, d]) ∧ (c ≤ hypV [a, b, c, d] ∧ -c ≤ hypV [a, b, c, d]) ∧ (d ≤ hypV [a, b, c, d] ∧ -d ≤ hypV [a, b, c, d]) ∧
    hypV [a, b, c, d] * hypV [a, b, c, d] - hypV [a, b, c, d] + 1 ≤ n4 a b c d ∧ (n4 a b c d ≤ 1329227995784915872903807060280344576 → n4 a b c d ≤ hypV [a, b, c, d] * hypV [a, b, c, d] + hypV [a, b, c, d] ∧ hypH [a, b, c, d] = false) := by
  have eH : hypH [a, b, c, d] = satH (rootW (n4 a b c d)) := by
    unfold hypH
    rw [sqS4, sat_in ha.1 ha.2, sat_in hb.1 hb.2, sat_in hc.1 hc.2, sat_in hd.1 hd.2]
    show ((satH a || (satH b || (satH c || (satH d || false)))) || _) = _
    rw [satH_in ha.1 ha.2, satH_in hb.1 hb.2, satH_in hc.1 hc.2, satH_in hd.1 hd.2]
    rfl
  have eV : hypV [a, b, c, d] = satV (rootW (n4 a b c d)) := by
    unfold hypV
    rw [sqS4, sat_in ha.1 ha.2, sat_in hb.1 hb.2, sat_in hc.1 hc.2, sat_in hd.1 hd.2]
    rfl
  rw [eV, eH]
  have q0 := sqb ha.1 ha.2
  have q1 := sqb hb.1 hb.2
  have q2 := sqb hc.1 hc.2
  have q3 := sqb hd.1 hd.2
  have hN : n4 a b c d < 340282366920938463463374607431768211456 := by unfold n4; omega
  have s0 := root_side (s := a) (N := n4 a b c d) (by unfold n4; omega) hN
  have s1 := root_side (s := b) (N := n4 a b c d) (by unfold n4; omega) hN
  have s2 := root_side (s := c) (N := n4 a b c d) (by unfold n4; omega) hN
  have s3 := root_side (s := d) (N := n4 a b c d) (by unfold n4; omega) hN
  obtain ⟨r0, r1, r2⟩ := rootW_spec (N := n4 a b c d) (by omega) hN
  generalize rootW (n4 a b c d) = r at *
  generalize n4 a b c d = N at *
  unfold inS at ha hb hc hd
  have hr1 : 1 ≤ r := by
    rcases Int.lt_or_le r 1 with h' | h'
    · have : r = 0 := by omega
      subst this
      omega
    · exact h'
  have r2' : r * r - r + 1 ≤ N := by
    rcases r2 with h' | h'
    · omega
    · exact h'
  by_cases hle : r ≤ 1152921504606846976
  · rw [sat_in (by omega) hle, satH_in (by omega) hle]
    exact ⟨by omega, by omega, by omega, by omega, by omega, by omega, fun _ => ⟨by omega, rfl⟩⟩
  · have hs : satV r = 1152921504606846976 := by
      unfold satV clampV
      (repeat' split) <;> omega
    have hrr : 1152921504606846977 * 1152921504606846976 ≤ r * (r - 1) := Int.mul_le_mul (by omega) (by omega) (by omega) (by omega)
    have e : r * (r - 1) = r * r - r := by grind
    rw [hs]
    exact ⟨by omega, by omega, by omega, by omega, by omega, by omega, fun h => absurd h (by omega)⟩

theorem sq_low {t s n : Int} (h0 : s ≤ n) (h1 : -s ≤ n) (hn : 1 ≤ n) (e0 : -n ≤ 2 * (t * n - s * 1073741824)) (e1 : 2 * (t * n - s * 1073741824) ≤ n) :
    s * s * 1152921504606846976 - 1073741824 * (n * n) ≤ t * t * (n * n) := by
  have p := prod_lt (a := s) (b := 2 * (t * n - s * 1073741824)) (k := n) (l := n) (by unfold absV; split <;> omega) (by unfold absV; split <;> omega)
  have q := sqN (t * n - s * 1073741824)
  have g1 : s * (2 * (t * n - s * 1073741824)) = 2 * (s * t * n) - 2147483648 * (s * s) := by grind
  have g2 : (t * n - s * 1073741824) * (t * n - s * 1073741824) = t * t * (n * n) - 2147483648 * (s * t * n) + 1152921504606846976 * (s * s) := by grind
  omega
/-- One pass: the numbers are about a Unit's. -/
theorem pass1 {a b c d n : Int} (hn : 1 ≤ n) (hn1 : n ≤ 1152921504606846976) (ha : a ≤ n ∧ -a ≤ n) (hb : b ≤ n ∧ -b ≤ n) (hc : c ≤ n ∧ -c ≤ n) (hd : d ≤ n ∧ -d ≤ n) (hN : n * n - n + 1 ≤ n4 a b c d) :
    3458764496640671744 ≤ 4 * n4 (divPV a n 30) (divPV b n 30) (divPV c n 30) (divPV d n 30) := by
  have a1 := sq_low ha.1 ha.2 hn (dpass ha.1 ha.2 hn hn1).1.1 (dpass ha.1 ha.2 hn hn1).1.2
  have b1 := sq_low hb.1 hb.2 hn (dpass hb.1 hb.2 hn hn1).1.1 (dpass hb.1 hb.2 hn hn1).1.2
  have c1 := sq_low hc.1 hc.2 hn (dpass hc.1 hc.2 hn hn1).1.1 (dpass hc.1 hc.2 hn hn1).1.2
  have d1 := sq_low hd.1 hd.2 hn (dpass hd.1 hd.2 hn hn1).1.1 (dpass hd.1 hd.2 hn hn1).1.2
  generalize divPV a n 30 = a' at *
  generalize divPV b n 30 = b' at *
  generalize divPV c n 30 = c' at *
  generalize divPV d n 30 = d' at *
  unfold n4 at *
  have hp : 0 < n * n := Int.mul_pos (by omega) (by omega)
  have h3 : 3 * (n * n) ≤ 4 * (a * a + (b * b + (c * c + d * d))) := by
    have q := sqN (n - 2)
    have e : (n - 2) * (n - 2) = n * n - 4 * n + 4 := by grind
    omega
  have e : (4 * (a' * a' + (b' * b' + (c' * c' + d' * d')))) * (n * n) = 4 * (a' * a' * (n * n) + (b' * b' * (n * n) + (c' * c' * (n * n) + d' * d' * (n * n)))) := by grind
  refine Int.le_of_mul_le_mul_right (a := n * n) ?_ hp
  rw [e]
  omega

/-- The sum of four numbers' sizes against the squares' (Cauchy and Schwarz). -/
theorem cs4 {a b c d m : Int} (hm : 0 ≤ m) (h : n4 a b c d ≤ m * m + m) : absV a + absV b + absV c + absV d ≤ 2 * m := by
  unfold n4 at h
  rw [← absSq a, ← absSq b, ← absSq c, ← absSq d] at h
  have a0 := absV_nn a
  have b0 := absV_nn b
  have c0 := absV_nn c
  have d0 := absV_nn d
  generalize absV a = x at *
  generalize absV b = y at *
  generalize absV c = z at *
  generalize absV d = w at *
  rcases Int.lt_or_le (2 * m) (x + y + z + w) with hl | hl
  · exfalso
    have q : (2 * m + 1) * (2 * m + 1) ≤ (x + y + z + w) * (x + y + z + w) := Int.mul_le_mul (by omega) (by omega) (by omega) (by omega)
    have e1 : (2 * m + 1) * (2 * m + 1) = 4 * (m * m) + 4 * m + 1 := by grind
    have q1 := sqN (x - y)
    have q2 := sqN (x - z)
    have q3 := sqN (x - w)
    have q4 := sqN (y - z)
    have q5 := sqN (y - w)
    have q6 := sqN (z - w)
    have e2 : (x + y + z + w) * (x + y + z + w) = 4 * (x * x + (y * y + (z * z + w * w))) - (x - y) * (x - y) - (x - z) * (x - z) - (x - w) * (x - w) - (y - z) * (y - z) - (y - w) * (y - w) - (z - w) * (z - w) := by grind
    omega
  · exact hl
/-- One number's square after a pass. -/
theorem sq_both {u t m : Int} (e0 : -m ≤ 2 * (u * m - t * 1073741824)) (e1 : 2 * (u * m - t * 1073741824) ≤ m) :
    -(4294967296 * (absV t * m)) ≤ 4 * (u * u * (m * m)) - 4611686018427387904 * (t * t) ∧ 4 * (u * u * (m * m)) - 4611686018427387904 * (t * t) ≤ 4294967296 * (absV t * m) + m * m := by
  have p := prod_lt (a := t) (b := 2 * (u * m - t * 1073741824)) (k := absV t) (l := m) (Int.le_refl _) (by unfold absV; split <;> omega)
  have q := prod_lt (a := 2 * (u * m - t * 1073741824)) (b := 2 * (u * m - t * 1073741824)) (k := m) (l := m) (by unfold absV; split <;> omega) (by unfold absV; split <;> omega)
  have q0 := sqN (2 * (u * m - t * 1073741824))
  have g1 : t * (2 * (u * m - t * 1073741824)) = 2 * (t * u * m) - 2147483648 * (t * t) := by grind
  have g2 : 2 * (u * m - t * 1073741824) * (2 * (u * m - t * 1073741824)) = 4 * (u * u * (m * m)) - 8589934592 * (t * u * m) + 4611686018427387904 * (t * t) := by grind
  omega
/-- Near One times One. -/
def nearU (N : Int) : Prop := -7516192768 ≤ 2 * (N - 1152921504606846976) ∧ 2 * (N - 1152921504606846976) ≤ 7516192768
theorem pass2 {a b c d m : Int} (hm : 3221225472 ≤ 4 * m) (hm1 : m ≤ 1152921504606846976) (ha : a ≤ m ∧ -a ≤ m) (hb : b ≤ m ∧ -b ≤ m) (hc : c ≤ m ∧ -c ≤ m) (hd : d ≤ m ∧ -d ≤ m) (hN : m * m - m + 1 ≤ n4 a b c d) (hN1 : n4 a b c d ≤ m * m + m) :
    nearU (n4 (divPV a m 30) (divPV b m 30) (divPV c m 30) (divPV d m 30)) := by
  have hn : 1 ≤ m := by omega
  have a1 := sq_both (dpass ha.1 ha.2 hn hm1).1.1 (dpass ha.1 ha.2 hn hm1).1.2
  have b1 := sq_both (dpass hb.1 hb.2 hn hm1).1.1 (dpass hb.1 hb.2 hn hm1).1.2
  have c1 := sq_both (dpass hc.1 hc.2 hn hm1).1.1 (dpass hc.1 hc.2 hn hm1).1.2
  have d1 := sq_both (dpass hd.1 hd.2 hn hm1).1.1 (dpass hd.1 hd.2 hn hm1).1.2
  have cs := cs4 (by omega) hN1
  generalize divPV a m 30 = a' at *
  generalize divPV b m 30 = b' at *
  generalize divPV c m 30 = c' at *
  generalize divPV d m 30 = d' at *
  have hp : 0 < m * m := Int.mul_pos (by omega) (by omega)
  have hs : (absV a + absV b + absV c + absV d) * m ≤ 2 * m * m := Int.mul_le_mul_of_nonneg_right cs (by omega)
  have es : (absV a + absV b + absV c + absV d) * m = absV a * m + absV b * m + absV c * m + absV d * m := by grind
  have e2 : 2 * m * m = 2 * (m * m) := by grind
  have h4 : 3221225472 * m ≤ 4 * m * m := Int.mul_le_mul_of_nonneg_right hm (by omega)
  have e4 : 4 * m * m = 4 * (m * m) := by grind
  unfold nearU
  unfold n4 at *
  have e : (a' * a' + (b' * b' + (c' * c' + d' * d'))) * (m * m) = a' * a' * (m * m) + (b' * b' * (m * m) + (c' * c' * (m * m) + d' * d' * (m * m))) := by grind
  generalize a' * a' + (b' * b' + (c' * c' + d' * d')) = U at *
  constructor
  · refine Int.le_of_mul_le_mul_right (a := m * m) ?_ hp
    have e5 : 2 * (U - 1152921504606846976) * (m * m) = 2 * (U * (m * m)) - 2305843009213693952 * (m * m) := by grind
    rw [e5]
    omega
  · refine Int.le_of_mul_le_mul_right (a := m * m) ?_ hp
    have e5 : 2 * (U - 1152921504606846976) * (m * m) = 2 * (U * (m * m)) - 2305843009213693952 * (m * m) := by grind
    rw [e5]
    omega
end Go.Proofs.Ytnabopepomjncaa

/- Units: what Unit makes of any numbers is near a Unit; again it is near itself. -/
namespace Go.Proofs.Ytnabopepomjncaa
open Go.Lr
set_option linter.unusedVariables false
set_option linter.unusedSimpArgs false

/-- Numbers of a Unit. -/
structure UnitQ (a b c d : Int) : Prop where
  ha : -1073741824 ≤ a ∧ a ≤ 1073741824
  hb : -1073741824 ≤ b ∧ b ≤ 1073741824
  hc : -1073741824 ≤ c ∧ c ≤ 1073741824
  hd : -1073741824 ≤ d ∧ d ≤ 1073741824
  hn : nearU (n4 a b c d)
theorem inS_bd {a : Int} (h : -1073741824 ≤ a ∧ a ≤ 1073741824) : inS a := by unfold inS; omega
theorem n4_pos {a b c d : Int} (h : ¬ (a = 0 ∧ b = 0 ∧ c = 0 ∧ d = 0)) : 1 ≤ n4 a b c d := by
  have pos : ∀ x : Int, x ≠ 0 → 1 ≤ x * x := by
    intro x hx
    have h1 : x * x ≠ 0 := by
      intro e
      rcases Int.mul_eq_zero.1 e with h | h <;> exact hx h
    have := sqN x
    omega
  have q0 := sqN a
  have q1 := sqN b
  have q2 := sqN c
  have q3 := sqN d
  have p0 := pos a
  have p1 := pos b
  have p2 := pos c
  have p3 := pos d
  unfold n4
  by_cases e0 : a = 0
  · by_cases e1 : b = 0
    · by_cases e2 : c = 0
      · by_cases e3 : d = 0
        · exact absurd ⟨e0, e1, e2, e3⟩ h
        · have := p3 e3; omega
      · have := p2 e2; omega
    · have := p1 e1; omega
  · have := p0 e0; omega
theorem uZ_pos {a b c d : Int} (h : uZ a b c d = false) : 1 ≤ n4 (satV a) (satV b) (satV c) (satV d) := by
  refine n4_pos fun ⟨e0, e1, e2, e3⟩ => ?_
  unfold uZ at h
  rw [e0, e1, e2, e3] at h
  exact absurd h (by decide)
theorem len_big {m N : Int} (h0 : 0 ≤ m) (h1 : N ≤ m * m + m) (h2 : 3458764496640671744 ≤ 4 * N) : 3221225472 ≤ 4 * m := by
  rcases Int.lt_or_le (4 * m) 3221225472 with h | h
  · exfalso
    have : m * m ≤ 805306367 * 805306367 := Int.mul_le_mul (by omega) (by omega) (by omega) (by omega)
    omega
  · exact h
theorem n4_le {a b c d : Int} (ha : -1073741824 ≤ a ∧ a ≤ 1073741824) (hb : -1073741824 ≤ b ∧ b ≤ 1073741824) (hc : -1073741824 ≤ c ∧ c ≤ 1073741824) (hd : -1073741824 ≤ d ∧ d ≤ 1073741824) : n4 a b c d ≤ 4611686018427387904 := by
  have sq : ∀ x : Int, -1073741824 ≤ x ∧ x ≤ 1073741824 → x * x ≤ 1152921504606846976 := by
    intro x hx
    exact (prod_lt (a := x) (b := x) (k := 1073741824) (l := 1073741824) (by unfold absV; split <;> omega) (by unfold absV; split <;> omega)).2
  have p0 := sq a ha
  have p1 := sq b hb
  have p2 := sq c hc
  have p3 := sq d hd
  unfold n4
  omega
/-- The second pass. -/
theorem second {a b c d : Int} (ha : -1073741824 ≤ a ∧ a ≤ 1073741824) (hb : -1073741824 ≤ b ∧ b ≤ 1073741824) (hc : -1073741824 ≤ c ∧ c ≤ 1073741824) (hd : -1073741824 ≤ d ∧ d ≤ 1073741824) (h : 3458764496640671744 ≤ 4 * n4 a b c d) :
    UnitQ (divPV a (hypV [a, b, c, d]) 30) (divPV b (hypV [a, b, c, d]) 30) (divPV c (hypV [a, b, c, d]) 30) (divPV d (hypV [a, b, c, d]) 30) := by
  obtain ⟨m0, mA, mB, mC, mD, m1, m2⟩ := hyp4 (inS_bd ha) (inS_bd hb) (inS_bd hc) (inS_bd hd) (by omega)
  have le := n4_le ha hb hc hd
  obtain ⟨m3, -⟩ := m2 (by omega)
  have big := len_big (by omega) m3 h
  exact ⟨(dpass mA.1 mA.2 m0.1 m0.2).2.1, (dpass mB.1 mB.2 m0.1 m0.2).2.1, (dpass mC.1 mC.2 m0.1 m0.2).2.1, (dpass mD.1 mD.2 m0.1 m0.2).2.1, pass2 big m0.2 mA mB mC mD m1 m3⟩
/-- What Unit makes is a Unit. -/
theorem unit_ok (a b c d : Int) : UnitQ (uV0 a b c d) (uV1 a b c d) (uV2 a b c d) (uV3 a b c d) := by
  unfold uV0 uV1 uV2 uV3
  rcases bool_cases (uZ a b c d) with h | h
  · rw [cond_t h, cond_t h, cond_t h, cond_t h]
    exact ⟨by omega, by omega, by omega, by omega, by unfold nearU n4; omega⟩
  · rw [cond_f h, cond_f h, cond_f h, cond_f h]
    have hp := uZ_pos h
    have sa := inS_sat a
    have sb := inS_sat b
    have sc := inS_sat c
    have sd := inS_sat d
    unfold uE
    generalize satV a = a at *
    generalize satV b = b at *
    generalize satV c = c at *
    generalize satV d = d at *
    obtain ⟨m0, mA, mB, mC, mD, m1, -⟩ := hyp4 sa sb sc sd hp
    refine second (dpass mA.1 mA.2 m0.1 m0.2).2.1 (dpass mB.1 mB.2 m0.1 m0.2).2.1 (dpass mC.1 mC.2 m0.1 m0.2).2.1 (dpass mD.1 mD.2 m0.1 m0.2).2.1 ?_
    exact pass1 m0.1 m0.2 mA mB mC mD m1
/-- A Unit's length. -/
theorem unit_len {a b c d : Int} (h : UnitQ a b c d) : 1073741822 ≤ hypV [a, b, c, d] ∧ hypV [a, b, c, d] ≤ 1073741826 := by
  obtain ⟨ha, hb, hc, hd, hn⟩ := h
  unfold nearU at hn
  obtain ⟨m0, -, -, -, -, m1, m2⟩ := hyp4 (inS_bd ha) (inS_bd hb) (inS_bd hc) (inS_bd hd) (by omega)
  have le := n4_le ha hb hc hd
  obtain ⟨m3, -⟩ := m2 (by omega)
  generalize hypV [a, b, c, d] = m at *
  generalize n4 a b c d = N at *
  constructor
  · rcases Int.lt_or_le m 1073741822 with g | g
    · exfalso
      have : m * m ≤ 1073741821 * 1073741821 := Int.mul_le_mul (by omega) (by omega) (by omega) (by omega)
      omega
    · exact g
  · rcases Int.lt_or_le 1073741826 m with g | g
    · exfalso
      have : 1073741827 * 1073741826 ≤ m * (m - 1) := Int.mul_le_mul (by omega) (by omega) (by omega) (by omega)
      have e : m * (m - 1) = m * m - m := by grind
      omega
    · exact g
theorem near_div {a n : Int} (ha : -1073741824 ≤ a ∧ a ≤ 1073741824) (h0 : a ≤ n ∧ -a ≤ n) (hn : 1073741822 ≤ n) (hn1 : n ≤ 1073741826) : -2 ≤ divPV a n 30 - a ∧ divPV a n 30 - a ≤ 2 := by
  have h := (dpass h0.1 h0.2 (by omega) (by omega)).1
  generalize divPV a n 30 = t at *
  have e : t * n - a * 1073741824 = (t - a) * n + a * (n - 1073741824) := by grind
  have p := prod_lt (a := a) (b := n - 1073741824) (k := 1073741824) (l := 2) (by unfold absV; split <;> omega) (by unfold absV; split <;> omega)
  rw [e] at h
  generalize a * (n - 1073741824) = w at *
  generalize t - a = x at *
  constructor
  · rcases Int.lt_or_le x (-2) with g | g
    · exfalso
      have : x * n ≤ -3 * n := Int.mul_le_mul_of_nonneg_right (by omega) (by omega)
      omega
    · exact g
  · rcases Int.lt_or_le 2 x with g | g
    · exfalso
      have : 3 * n ≤ x * n := Int.mul_le_mul_of_nonneg_right (by omega) (by omega)
      omega
    · exact g
/-- A pass over a Unit. -/
theorem unit_pass {a b c d : Int} (h : UnitQ a b c d) : UnitQ (divPV a (hypV [a, b, c, d]) 30) (divPV b (hypV [a, b, c, d]) 30) (divPV c (hypV [a, b, c, d]) 30) (divPV d (hypV [a, b, c, d]) 30) ∧
    (-2 ≤ divPV a (hypV [a, b, c, d]) 30 - a ∧ divPV a (hypV [a, b, c, d]) 30 - a ≤ 2) ∧ (-2 ≤ divPV b (hypV [a, b, c, d]) 30 - b ∧ divPV b (hypV [a, b, c, d]) 30 - b ≤ 2) ∧ (-2 ≤ divPV c (hypV [a, b, c, d]) 30 - c ∧ divPV c (hypV [a, b, c, d]) 30 - c ≤ 2) ∧ (-2 ≤ divPV d (hypV [a, b, c, d]) 30 - d ∧ divPV d (hypV [a, b, c, d]) 30 - d ≤ 2) := by
  have hl := unit_len h
  obtain ⟨ha, hb, hc, hd, hn⟩ := h
  unfold nearU at hn
  obtain ⟨m0, mA, mB, mC, mD, m1, m2⟩ := hyp4 (inS_bd ha) (inS_bd hb) (inS_bd hc) (inS_bd hd) (by omega)
  exact ⟨second ha hb hc hd (by omega), near_div ha mA hl.1 hl.2, near_div hb mB hl.1 hl.2, near_div hc mC hl.1 hl.2, near_div hd mD hl.1 hl.2⟩
/-- A Unit made a Unit again is near itself. -/
theorem unit_again {a b c d : Int} (h : UnitQ a b c d) : (-4 ≤ uV0 a b c d - a ∧ uV0 a b c d - a ≤ 4) ∧ (-4 ≤ uV1 a b c d - b ∧ uV1 a b c d - b ≤ 4) ∧ (-4 ≤ uV2 a b c d - c ∧ uV2 a b c d - c ≤ 4) ∧ (-4 ≤ uV3 a b c d - d ∧ uV3 a b c d - d ≤ 4) := by
  have hz : uZ a b c d = false := by
    rcases bool_cases (uZ a b c d) with g | g
    · exfalso
      have hn := h.hn
      unfold uZ at g
      simp only [Bool.and_eq_true, Bool.and_true, beq_iff_eq] at g
      obtain ⟨e0, e1, e2, e3⟩ := g
      have i0 := inS_bd h.ha
      have i1 := inS_bd h.hb
      have i2 := inS_bd h.hc
      have i3 := inS_bd h.hd
      rw [sat_in i0.1 i0.2] at e0
      rw [sat_in i1.1 i1.2] at e1
      rw [sat_in i2.1 i2.2] at e2
      rw [sat_in i3.1 i3.2] at e3
      subst e0 e1 e2 e3
      unfold nearU n4 at hn
      omega
    · exact g
  have i0 := inS_bd h.ha
  have i1 := inS_bd h.hb
  have i2 := inS_bd h.hc
  have i3 := inS_bd h.hd
  obtain ⟨p, a1, b1, c1, d1⟩ := unit_pass h
  obtain ⟨-, a2, b2, c2, d2⟩ := unit_pass p
  unfold uV0 uV1 uV2 uV3
  rw [cond_f hz, cond_f hz, cond_f hz, cond_f hz, sat_in i0.1 i0.2, sat_in i1.1 i1.2, sat_in i2.1 i2.2, sat_in i3.1 i3.2]
  unfold uE
  omega
end Go.Proofs.Ytnabopepomjncaa

/- Products of Units: plain bounds. -/
namespace Go.Proofs.Ytnabopepomjncaa
open Go.Lr
set_option linter.unusedVariables false
set_option linter.unusedSimpArgs false

def q0 (a0 a1 a2 a3 b0 b1 b2 b3 : Int) : Int := a0 * b0 - a1 * b1 - a2 * b2 - a3 * b3
def q1 (a0 a1 a2 a3 b0 b1 b2 b3 : Int) : Int := a0 * b1 + a1 * b0 + a2 * b3 - a3 * b2
def q2 (a0 a1 a2 a3 b0 b1 b2 b3 : Int) : Int := a0 * b2 - a1 * b3 + a2 * b0 + a3 * b1
def q3 (a0 a1 a2 a3 b0 b1 b2 b3 : Int) : Int := a0 * b3 + a1 * b2 - a2 * b1 + a3 * b0
/-- Within 2^33. -/
def sm (x : Int) : Prop := -8589934592 ≤ x ∧ x ≤ 8589934592
def one (x : Int) : Prop := -1073741824 ≤ x ∧ x ≤ 1073741824
theorem one.sm {x : Int} (h : one x) : sm x := by unfold one Go.Proofs.Ytnabopepomjncaa.sm at *; omega
theorem sm.inS {x : Int} (h : sm x) : Go.Proofs.Ytnabopepomjncaa.inS x := by unfold sm Go.Proofs.Ytnabopepomjncaa.inS at *; omega
theorem sm.neg {x : Int} (h : sm x) : sm (-x) := by unfold sm at *; omega
theorem one.neg {x : Int} (h : one x) : one (-x) := by unfold one at *; omega
theorem sm.mul {x y : Int} (h : sm x) (g : sm y) : -73786976294838206464 ≤ x * y ∧ x * y ≤ 73786976294838206464 := by
  unfold sm at *
  exact prod_lt (a := x) (b := y) (k := 8589934592) (l := 8589934592) (by unfold absV; split <;> omega) (by unfold absV; split <;> omega)
theorem one.mul {x y : Int} (h : one x) (g : one y) : -1152921504606846976 ≤ x * y ∧ x * y ≤ 1152921504606846976 := by
  unfold one at *
  exact prod_lt (a := x) (b := y) (k := 1073741824) (l := 1073741824) (by unfold absV; split <;> omega) (by unfold absV; split <;> omega)
/-- p is w by 2^30, rounded. -/
def RN (p w : Int) : Prop := -1073741824 ≤ 2 * (p * 1073741824 - w) ∧ 2 * (p * 1073741824 - w) ≤ 1073741824
theorem rn_rnd (w : Int) : RN (rndV w 30) w := by
  have h := rnd_bd w 30
  have e : pow2 30 = 1073741824 := rfl
  rw [e] at h
  exact h
theorem rs30 {w : Int} (h0 : -1208925819614629174706176 ≤ w) (h1 : w ≤ 1208925819614629174706176) : rndS w 30 = rndV w 30 ∧ rndH w 30 = false := by
  have h := rn_rnd w
  unfold RN at h
  have e : Int.toNat 30 = 30 := rfl
  unfold rndS rndH
  rw [e, if_neg (by decide), if_neg (by decide), sat_in (by omega) (by omega), satH_in (by omega) (by omega)]
  exact ⟨rfl, rfl⟩
theorem dotO {x0 x1 x2 x3 y0 y1 y2 y3 w : Int} (a0 : sm x0) (a1 : sm x1) (a2 : sm x2) (a3 : sm x3) (b0 : sm y0) (b1 : sm y1) (b2 : sm y2) (b3 : sm y3) (hw : x0 * y0 + (x1 * y1 + (x2 * y2 + (x3 * y3 + 0))) = w) :
    dotV 30 [x0, x1, x2, x3] [y0, y1, y2, y3] = rndV w 30 ∧ dotH 30 [x0, x1, x2, x3] [y0, y1, y2, y3] = false := by
  obtain ⟨e, f⟩ := dot4 a0.inS a1.inS a2.inS a3.inS b0.inS b1.inS b2.inS b3.inS
  rw [e, f, hw]
  have m0 := a0.mul b0
  have m1 := a1.mul b1
  have m2 := a2.mul b2
  have m3 := a3.mul b3
  exact rs30 (by omega) (by omega)
/-- A product of quaternions. -/
def mq0 (a0 a1 a2 a3 b0 b1 b2 b3 : Int) : Int := dotV 30 [satV a0, satV a1, satV a2, satV a3] [satV b0, wr IntKind.i64 (0 - satV b1), wr IntKind.i64 (0 - satV b2), wr IntKind.i64 (0 - satV b3)]
def mq1 (a0 a1 a2 a3 b0 b1 b2 b3 : Int) : Int := dotV 30 [satV a0, satV a1, satV a2, satV a3] [satV b1, satV b0, satV b3, wr IntKind.i64 (0 - satV b2)]
def mq2 (a0 a1 a2 a3 b0 b1 b2 b3 : Int) : Int := dotV 30 [satV a0, satV a1, satV a2, satV a3] [satV b2, wr IntKind.i64 (0 - satV b3), satV b0, satV b1]
def mq3 (a0 a1 a2 a3 b0 b1 b2 b3 : Int) : Int := dotV 30 [satV a0, satV a1, satV a2, satV a3] [satV b3, satV b2, wr IntKind.i64 (0 - satV b1), satV b0]
theorem sm.sat {x : Int} (h : sm x) : satV x = x ∧ satH x = false := ⟨sat_in h.inS.1 h.inS.2, satH_in h.inS.1 h.inS.2⟩
theorem mq_eq {a0 a1 a2 a3 b0 b1 b2 b3 : Int} (g0 : sm a0) (g1 : sm a1) (g2 : sm a2) (g3 : sm a3) (h0 : sm b0) (h1 : sm b1) (h2 : sm b2) (h3 : sm b3) :
    mq0 a0 a1 a2 a3 b0 b1 b2 b3 = rndV (q0 a0 a1 a2 a3 b0 b1 b2 b3) 30 ∧ mq1 a0 a1 a2 a3 b0 b1 b2 b3 = rndV (q1 a0 a1 a2 a3 b0 b1 b2 b3) 30 ∧ mq2 a0 a1 a2 a3 b0 b1 b2 b3 = rndV (q2 a0 a1 a2 a3 b0 b1 b2 b3) 30 ∧ mq3 a0 a1 a2 a3 b0 b1 b2 b3 = rndV (q3 a0 a1 a2 a3 b0 b1 b2 b3) 30 ∧ ∀ h, mulQH h a0 a1 a2 a3 b0 b1 b2 b3 = h := by
  unfold mq0 mq1 mq2 mq3 mulQH
  rw [g0.sat.1, g1.sat.1, g2.sat.1, g3.sat.1, h0.sat.1, h1.sat.1, h2.sat.1, h3.sat.1, g0.sat.2, g1.sat.2, g2.sat.2, g3.sat.2, h0.sat.2, h1.sat.2, h2.sat.2, h3.sat.2, wneg h1.inS, wneg h2.inS, wneg h3.inS]
  obtain ⟨e0, f0⟩ := dotO (w := q0 a0 a1 a2 a3 b0 b1 b2 b3) g0 g1 g2 g3 h0 h1.neg h2.neg h3.neg (by unfold q0; grind)
  obtain ⟨e1, f1⟩ := dotO (w := q1 a0 a1 a2 a3 b0 b1 b2 b3) g0 g1 g2 g3 h1 h0 h3 h2.neg (by unfold q1; grind)
  obtain ⟨e2, f2⟩ := dotO (w := q2 a0 a1 a2 a3 b0 b1 b2 b3) g0 g1 g2 g3 h2 h3.neg h0 h1 (by unfold q2; grind)
  obtain ⟨e3, f3⟩ := dotO (w := q3 a0 a1 a2 a3 b0 b1 b2 b3) g0 g1 g2 g3 h3 h2 h1.neg h0 (by unfold q3; grind)
  rw [e0, e1, e2, e3, f0, f1, f2, f3]
  exact ⟨rfl, rfl, rfl, rfl, fun h => by simp⟩
theorem rnd_sm {w : Int} (h0 : -5764607523034234880 ≤ w) (h1 : w ≤ 5764607523034234880) : sm (rndV w 30) := by
  have h := rn_rnd w
  unfold RN at h
  unfold sm
  omega
theorem q_bd {a0 a1 a2 a3 b0 b1 b2 b3 : Int} (g0 : one a0) (g1 : one a1) (g2 : one a2) (g3 : one a3) (h0 : one b0) (h1 : one b1) (h2 : one b2) (h3 : one b3) :
    sm (rndV (q0 a0 a1 a2 a3 b0 b1 b2 b3) 30) ∧ sm (rndV (q1 a0 a1 a2 a3 b0 b1 b2 b3) 30) ∧ sm (rndV (q2 a0 a1 a2 a3 b0 b1 b2 b3) 30) ∧ sm (rndV (q3 a0 a1 a2 a3 b0 b1 b2 b3) 30) := by
  refine ⟨?_, ?_, ?_, ?_⟩
  · have := g0.mul h0
    have := g1.mul h1
    have := g2.mul h2
    have := g3.mul h3
    exact rnd_sm (by unfold q0; omega) (by unfold q0; omega)
  · have := g0.mul h1
    have := g1.mul h0
    have := g2.mul h3
    have := g3.mul h2
    exact rnd_sm (by unfold q1; omega) (by unfold q1; omega)
  · have := g0.mul h2
    have := g1.mul h3
    have := g2.mul h0
    have := g3.mul h1
    exact rnd_sm (by unfold q2; omega) (by unfold q2; omega)
  · have := g0.mul h3
    have := g1.mul h2
    have := g2.mul h1
    have := g3.mul h0
    exact rnd_sm (by unfold q3; omega) (by unfold q3; omega)
/-- A sum of four rounded numbers' products, rounded: against the sum of the numbers' own. -/
theorem grp {x p0 p1 p2 p3 w0 w1 w2 w3 d0 d1 d2 d3 : Int} (hx : RN x (p0 * d0 + p1 * d1 + p2 * d2 + p3 * d3)) (r0 : RN p0 w0) (r1 : RN p1 w1) (r2 : RN p2 w2) (r3 : RN p3 w3) (h0 : one d0) (h1 : one d1) (h2 : one d2) (h3 : one d3) :
    -5764607523034234880 ≤ 2 * (x * 1152921504606846976 - (w0 * d0 + w1 * d1 + w2 * d2 + w3 * d3)) ∧ 2 * (x * 1152921504606846976 - (w0 * d0 + w1 * d1 + w2 * d2 + w3 * d3)) ≤ 5764607523034234880 := by
  have b0 := one.mul (x := 2 * (p0 * 1073741824 - w0)) r0 h0
  have b1 := one.mul (x := 2 * (p1 * 1073741824 - w1)) r1 h1
  have b2 := one.mul (x := 2 * (p2 * 1073741824 - w2)) r2 h2
  have b3 := one.mul (x := 2 * (p3 * 1073741824 - w3)) r3 h3
  have e : ∀ p w d : Int, 2 * (p * 1073741824 - w) * d = 2147483648 * (p * d) - 2 * (w * d) := by intro p w d; grind
  rw [e] at b0 b1 b2 b3
  unfold RN at hx
  omega
/-- Three factors, grouped both ways. -/
theorem groups {a0 a1 a2 a3 b0 b1 b2 b3 d0 d1 d2 d3 : Int} (ga0 : one a0) (ga1 : one a1) (ga2 : one a2) (ga3 : one a3) (gd0 : one d0) (gd1 : one d1) (gd2 : one d2) (gd3 : one d3)
    {p0 p1 p2 p3 r0 r1 r2 r3 x0 x1 x2 x3 y0 y1 y2 y3 : Int} (hp0 : RN p0 (q0 a0 a1 a2 a3 b0 b1 b2 b3)) (hp1 : RN p1 (q1 a0 a1 a2 a3 b0 b1 b2 b3)) (hp2 : RN p2 (q2 a0 a1 a2 a3 b0 b1 b2 b3)) (hp3 : RN p3 (q3 a0 a1 a2 a3 b0 b1 b2 b3))
    (hr0 : RN r0 (q0 b0 b1 b2 b3 d0 d1 d2 d3)) (hr1 : RN r1 (q1 b0 b1 b2 b3 d0 d1 d2 d3)) (hr2 : RN r2 (q2 b0 b1 b2 b3 d0 d1 d2 d3)) (hr3 : RN r3 (q3 b0 b1 b2 b3 d0 d1 d2 d3))
    (hx0 : RN x0 (q0 p0 p1 p2 p3 d0 d1 d2 d3)) (hx1 : RN x1 (q1 p0 p1 p2 p3 d0 d1 d2 d3)) (hx2 : RN x2 (q2 p0 p1 p2 p3 d0 d1 d2 d3)) (hx3 : RN x3 (q3 p0 p1 p2 p3 d0 d1 d2 d3))
    (hy0 : RN y0 (q0 a0 a1 a2 a3 r0 r1 r2 r3)) (hy1 : RN y1 (q1 a0 a1 a2 a3 r0 r1 r2 r3)) (hy2 : RN y2 (q2 a0 a1 a2 a3 r0 r1 r2 r3)) (hy3 : RN y3 (q3 a0 a1 a2 a3 r0 r1 r2 r3)) :
    (-5 ≤ x0 - y0 ∧ x0 - y0 ≤ 5) ∧ (-5 ≤ x1 - y1 ∧ x1 - y1 ≤ 5) ∧ (-5 ≤ x2 - y2 ∧ x2 - y2 ≤ 5) ∧ (-5 ≤ x3 - y3 ∧ x3 - y3 ≤ 5) := by
  refine ⟨?_, ?_, ?_, ?_⟩
  · have g := grp (x := x0) (by rw [show p0 * d0 + p1 * -d1 + p2 * -d2 + p3 * -d3 = q0 p0 p1 p2 p3 d0 d1 d2 d3 by unfold q0; grind]; exact hx0) hp0 hp1 hp2 hp3 gd0 gd1.neg gd2.neg gd3.neg
    have k := grp (x := y0) (by rw [show r0 * a0 + r1 * -a1 + r2 * -a2 + r3 * -a3 = q0 a0 a1 a2 a3 r0 r1 r2 r3 by unfold q0; grind]; exact hy0) hr0 hr1 hr2 hr3 ga0 ga1.neg ga2.neg ga3.neg
    have e : q0 a0 a1 a2 a3 b0 b1 b2 b3 * d0 + q1 a0 a1 a2 a3 b0 b1 b2 b3 * -d1 + q2 a0 a1 a2 a3 b0 b1 b2 b3 * -d2 + q3 a0 a1 a2 a3 b0 b1 b2 b3 * -d3 = q0 b0 b1 b2 b3 d0 d1 d2 d3 * a0 + q1 b0 b1 b2 b3 d0 d1 d2 d3 * -a1 + q2 b0 b1 b2 b3 d0 d1 d2 d3 * -a2 + q3 b0 b1 b2 b3 d0 d1 d2 d3 * -a3 := by
      unfold q0 q1 q2 q3; grind
    rw [e] at g
    omega
  · have g := grp (x := x1) (by rw [show p0 * d1 + p1 * d0 + p2 * d3 + p3 * -d2 = q1 p0 p1 p2 p3 d0 d1 d2 d3 by unfold q1; grind]; exact hx1) hp0 hp1 hp2 hp3 gd1 gd0 gd3 gd2.neg
    have k := grp (x := y1) (by rw [show r0 * a1 + r1 * a0 + r2 * -a3 + r3 * a2 = q1 a0 a1 a2 a3 r0 r1 r2 r3 by unfold q1; grind]; exact hy1) hr0 hr1 hr2 hr3 ga1 ga0 ga3.neg ga2
    have e : q0 a0 a1 a2 a3 b0 b1 b2 b3 * d1 + q1 a0 a1 a2 a3 b0 b1 b2 b3 * d0 + q2 a0 a1 a2 a3 b0 b1 b2 b3 * d3 + q3 a0 a1 a2 a3 b0 b1 b2 b3 * -d2 = q0 b0 b1 b2 b3 d0 d1 d2 d3 * a1 + q1 b0 b1 b2 b3 d0 d1 d2 d3 * a0 + q2 b0 b1 b2 b3 d0 d1 d2 d3 * -a3 + q3 b0 b1 b2 b3 d0 d1 d2 d3 * a2 := by
      unfold q0 q1 q2 q3; grind
    rw [e] at g
    omega
  · have g := grp (x := x2) (by rw [show p0 * d2 + p1 * -d3 + p2 * d0 + p3 * d1 = q2 p0 p1 p2 p3 d0 d1 d2 d3 by unfold q2; grind]; exact hx2) hp0 hp1 hp2 hp3 gd2 gd3.neg gd0 gd1
    have k := grp (x := y2) (by rw [show r0 * a2 + r1 * a3 + r2 * a0 + r3 * -a1 = q2 a0 a1 a2 a3 r0 r1 r2 r3 by unfold q2; grind]; exact hy2) hr0 hr1 hr2 hr3 ga2 ga3 ga0 ga1.neg
    have e : q0 a0 a1 a2 a3 b0 b1 b2 b3 * d2 + q1 a0 a1 a2 a3 b0 b1 b2 b3 * -d3 + q2 a0 a1 a2 a3 b0 b1 b2 b3 * d0 + q3 a0 a1 a2 a3 b0 b1 b2 b3 * d1 = q0 b0 b1 b2 b3 d0 d1 d2 d3 * a2 + q1 b0 b1 b2 b3 d0 d1 d2 d3 * a3 + q2 b0 b1 b2 b3 d0 d1 d2 d3 * a0 + q3 b0 b1 b2 b3 d0 d1 d2 d3 * -a1 := by
      unfold q0 q1 q2 q3; grind
    rw [e] at g
    omega
  · have g := grp (x := x3) (by rw [show p0 * d3 + p1 * d2 + p2 * -d1 + p3 * d0 = q3 p0 p1 p2 p3 d0 d1 d2 d3 by unfold q3; grind]; exact hx3) hp0 hp1 hp2 hp3 gd3 gd2 gd1.neg gd0
    have k := grp (x := y3) (by rw [show r0 * a3 + r1 * -a2 + r2 * a1 + r3 * a0 = q3 a0 a1 a2 a3 r0 r1 r2 r3 by unfold q3; grind]; exact hy3) hr0 hr1 hr2 hr3 ga3 ga2.neg ga1 ga0
    have e : q0 a0 a1 a2 a3 b0 b1 b2 b3 * d3 + q1 a0 a1 a2 a3 b0 b1 b2 b3 * d2 + q2 a0 a1 a2 a3 b0 b1 b2 b3 * -d1 + q3 a0 a1 a2 a3 b0 b1 b2 b3 * d0 = q0 b0 b1 b2 b3 d0 d1 d2 d3 * a3 + q1 b0 b1 b2 b3 d0 d1 d2 d3 * -a2 + q2 b0 b1 b2 b3 d0 d1 d2 d3 * a1 + q3 b0 b1 b2 b3 d0 d1 d2 d3 * a0 := by
      unfold q0 q1 q2 q3; grind
    rw [e] at g
    omega
/-- A product's length: four squares. -/
theorem prod_len {a0 a1 a2 a3 b0 b1 b2 b3 p0 p1 p2 p3 : Int} (ha : nearU (n4 a0 a1 a2 a3)) (hb : nearU (n4 b0 b1 b2 b3))
    (hp0 : RN p0 (q0 a0 a1 a2 a3 b0 b1 b2 b3)) (hp1 : RN p1 (q1 a0 a1 a2 a3 b0 b1 b2 b3)) (hp2 : RN p2 (q2 a0 a1 a2 a3 b0 b1 b2 b3)) (hp3 : RN p3 (q3 a0 a1 a2 a3 b0 b1 b2 b3)) :
    1152921504606846976 - 17179869184 ≤ n4 p0 p1 p2 p3 ∧ n4 p0 p1 p2 p3 ≤ 1152921504606846976 + 17179869184 := by
  have hq : n4 (q0 a0 a1 a2 a3 b0 b1 b2 b3) (q1 a0 a1 a2 a3 b0 b1 b2 b3) (q2 a0 a1 a2 a3 b0 b1 b2 b3) (q3 a0 a1 a2 a3 b0 b1 b2 b3) = n4 a0 a1 a2 a3 * n4 b0 b1 b2 b3 := by
    unfold n4 q0 q1 q2 q3; grind
  generalize q0 a0 a1 a2 a3 b0 b1 b2 b3 = w0 at *
  generalize q1 a0 a1 a2 a3 b0 b1 b2 b3 = w1 at *
  generalize q2 a0 a1 a2 a3 b0 b1 b2 b3 = w2 at *
  generalize q3 a0 a1 a2 a3 b0 b1 b2 b3 = w3 at *
  generalize n4 a0 a1 a2 a3 = U at *
  generalize n4 b0 b1 b2 b3 = V at *
  unfold nearU at ha hb
  have up : U * V ≤ 1152921508364943360 * 1152921508364943360 := Int.mul_le_mul (by omega) (by omega) (by omega) (by omega)
  have lo : 1152921500848750592 * 1152921500848750592 ≤ U * V := Int.mul_le_mul (by omega) (by omega) (by omega) (by omega)
  have s0 := sqN w0
  have s1 := sqN w1
  have s2 := sqN w2
  have s3 := sqN w3
  unfold n4 at *
  have bw : ∀ w : Int, w * w ≤ U * V → -1152921508364943360 ≤ w ∧ w ≤ 1152921508364943360 := by
    intro w hw
    constructor
    · rcases Int.lt_or_le w (-1152921508364943360) with g | g
      · exfalso
        have : 1152921508364943361 * 1152921508364943361 ≤ -w * -w := Int.mul_le_mul (by omega) (by omega) (by omega) (by omega)
        have e : -w * -w = w * w := by grind
        omega
      · exact g
    · rcases Int.lt_or_le 1152921508364943360 w with g | g
      · exfalso
        have : 1152921508364943361 * 1152921508364943361 ≤ w * w := Int.mul_le_mul (by omega) (by omega) (by omega) (by omega)
        omega
      · exact g
  have one_sq : ∀ p w : Int, RN p w → w * w ≤ U * V → 4 * (w * w) - 4951760173282422164092354560 ≤ 4611686018427387904 * (p * p) ∧ 4611686018427387904 * (p * p) ≤ 4 * (w * w) + 4951760173282422164092354560 + 1152921504606846976 := by
    intro p w hr hw
    have b := bw w hw
    have t := prod_lt (a := w) (b := 2 * (p * 1073741824 - w)) (k := 1152921508364943360) (l := 1073741824) (by unfold absV; split <;> omega) (by unfold RN at hr; unfold absV; split <;> omega)
    have z := one.mul (x := 2 * (p * 1073741824 - w)) (y := 2 * (p * 1073741824 - w)) hr hr
    have z0 := sqN (2 * (p * 1073741824 - w))
    have e : w * (2 * (p * 1073741824 - w)) = 2147483648 * (w * p) - 2 * (w * w) := by grind
    have e2 : 2 * (p * 1073741824 - w) * (2 * (p * 1073741824 - w)) = 4611686018427387904 * (p * p) - 8589934592 * (w * p) + 4 * (w * w) := by grind
    omega
  have k0 := one_sq p0 w0 hp0 (by omega)
  have k1 := one_sq p1 w1 hp1 (by omega)
  have k2 := one_sq p2 w2 hp2 (by omega)
  have k3 := one_sq p3 w3 hp3 (by omega)
  omega
end Go.Proofs.Ytnabopepomjncaa

/- Near of both answers' Units: its summary; the laws of chapter 6 see Units and products by name. -/
namespace Go.Proofs.Ytnabopepomjncaa
open Go.Lr
set_option linter.unusedVariables false
set_option linter.unusedSimpArgs false

def nk (a : Int) : Int := wr IntKind.i64 ((wr IntKind.i64 (a * a)).tdiv 4)
def nj (a : Int) : Int := (wr IntKind.i64 (a * a)).tmod 4
def nh1 (a0 : Int) : Int := wr IntKind.i64 (0 + nk a0)
def nh2 (a0 a1 : Int) : Int := wr IntKind.i64 (nh1 a0 + nk a1)
def nh3 (a0 a1 a2 : Int) : Int := wr IntKind.i64 (nh2 a0 a1 + nk a2)
def nh4 (a0 a1 a2 a3 : Int) : Int := wr IntKind.i64 (nh3 a0 a1 a2 + nk a3)
def nr4 (a0 a1 a2 a3 : Int) : Int := wr IntKind.i64 (wr IntKind.i64 (wr IntKind.i64 (wr IntKind.i64 (0 + nj a0) + nj a1) + nj a2) + nj a3)
def nd (a0 a1 a2 a3 : Int) : Int := wr IntKind.i64 (wr IntKind.i64 (4 * wr IntKind.i64 (nh4 a0 a1 a2 a3 - 288230376151711744)) + nr4 a0 a1 a2 a3)
theorem nk_eq {a : Int} (h : one a) : nk a = a * a / 4 ∧ nj a = a * a % 4 ∧ 0 ≤ a * a ∧ a * a ≤ 1152921504606846976 := by
  have m := h.mul h
  have p := sqN a
  unfold nk nj
  rw [wr_i, wr_i, w64_in (x := a * a) (by omega) (by omega), Int.tdiv_eq_ediv_of_nonneg p, Int.tmod_eq_emod_of_nonneg p, w64_in (by omega) (by omega)]
  exact ⟨rfl, rfl, p, m.2⟩
/-- What Near asks of a Unit. -/
theorem near_ok {a0 a1 a2 a3 : Int} (h0 : one a0) (h1 : one a1) (h2 : one a2) (h3 : one a3) (hn : nearU (n4 a0 a1 a2 a3)) :
    nh1 a0 ≤ 576460752303423488 ∧ nh2 a0 a1 ≤ 576460752303423488 ∧ nh3 a0 a1 a2 ≤ 576460752303423488 ∧ nh4 a0 a1 a2 a3 ≤ 576460752303423488 ∧ -4294967296 ≤ nd a0 a1 a2 a3 ∧ nd a0 a1 a2 a3 ≤ 4294967296 := by
  obtain ⟨k0, j0, l0, u0⟩ := nk_eq h0
  obtain ⟨k1, j1, l1, u1⟩ := nk_eq h1
  obtain ⟨k2, j2, l2, u2⟩ := nk_eq h2
  obtain ⟨k3, j3, l3, u3⟩ := nk_eq h3
  unfold nearU n4 at hn
  have e1 : nh1 a0 = a0 * a0 / 4 := by unfold nh1; rw [k0, wr_i, w64_in (by omega) (by omega)]; omega
  have e2 : nh2 a0 a1 = a0 * a0 / 4 + a1 * a1 / 4 := by unfold nh2; rw [e1, k1, wr_i, w64_in (by omega) (by omega)]
  have e3 : nh3 a0 a1 a2 = a0 * a0 / 4 + a1 * a1 / 4 + a2 * a2 / 4 := by unfold nh3; rw [e2, k2, wr_i, w64_in (by omega) (by omega)]
  have e4 : nh4 a0 a1 a2 a3 = a0 * a0 / 4 + a1 * a1 / 4 + a2 * a2 / 4 + a3 * a3 / 4 := by unfold nh4; rw [e3, k3, wr_i, w64_in (by omega) (by omega)]
  have er : nr4 a0 a1 a2 a3 = a0 * a0 % 4 + a1 * a1 % 4 + a2 * a2 % 4 + a3 * a3 % 4 := by
    unfold nr4
    rw [j0, j1, j2, j3, wr_i, wr_i, wr_i, wr_i, w64_in (x := 0 + a0 * a0 % 4) (by omega) (by omega), w64_in (x := 0 + a0 * a0 % 4 + a1 * a1 % 4) (by omega) (by omega), w64_in (x := 0 + a0 * a0 % 4 + a1 * a1 % 4 + a2 * a2 % 4) (by omega) (by omega), w64_in (by omega) (by omega)]
    omega
  have ed : nd a0 a1 a2 a3 = a0 * a0 + (a1 * a1 + (a2 * a2 + a3 * a3)) - 1152921504606846976 := by
    unfold nd
    rw [e4, er, wr_i, wr_i, wr_i, w64_in (x := a0 * a0 / 4 + a1 * a1 / 4 + a2 * a2 / 4 + a3 * a3 / 4 - 288230376151711744) (by omega) (by omega), w64_in (x := 4 * (a0 * a0 / 4 + a1 * a1 / 4 + a2 * a2 / 4 + a3 * a3 / 4 - 288230376151711744)) (by omega) (by omega), w64_in (by omega) (by omega)]
    omega
  rw [e1, e2, e3, e4, ed]
  omega
def one30 (a : Int) : Bool := decide (-1073741824 ≤ a) && decide (a ≤ 1073741824)
theorem one30_iff {a : Int} : one30 a = true ↔ one a := by unfold one30 one; simp
def nearB (a0 a1 a2 a3 : Int) : Bool := one30 a0 && (one30 a1 && (one30 a2 && (one30 a3 && (decide (-7516192768 ≤ 2 * (n4 a0 a1 a2 a3 - 1152921504606846976)) && decide (2 * (n4 a0 a1 a2 a3 - 1152921504606846976) ≤ 7516192768)))))
theorem nearB_iff {a0 a1 a2 a3 : Int} : nearB a0 a1 a2 a3 = true ↔ UnitQ a0 a1 a2 a3 := by
  unfold nearB
  simp only [Bool.and_eq_true, one30_iff, decide_eq_true_eq]
  constructor
  · rintro ⟨h0, h1, h2, h3, h4⟩; exact ⟨h0, h1, h2, h3, h4⟩
  · rintro ⟨h0, h1, h2, h3, h4⟩; exact ⟨h0, h1, h2, h3, h4⟩
def nearS : List LV → Option (LV × List (Bool × Bool))
  | [.v (.agg [.int .i64 a0, .int .i64 a1, .int .i64 a2, .int .i64 a3])] => some (B true, [(nearB a0 a1 a2 a3, true)])
  | _ => none
def unitN : List LV → Bool → Option (LV × Bool × List (Bool × Bool))
  | [.v (.agg [.int .i64 a0, .int .i64 a1, .int .i64 a2, .int .i64 a3])], hb => some (.v (.agg [.int .i64 (uV0 a0 a1 a2 a3), .int .i64 (uV1 a0 a1 a2 a3), .int .i64 (uV2 a0 a1 a2 a3), .int .i64 (uV3 a0 a1 a2 a3)]), uFl hb a0 a1 a2 a3, [])
  | _, _ => none
theorem sumUnitN : SumOK Try.prog 49 (accSum 26 unitN) := by
  refine sumpu.acc_re fun args hb v h' cs hF _ => ?_
  unfold unitN at hF
  split at hF
  · cases hF; exact ⟨[], rfl, ae_nil⟩
  · cases hF
def mulN : List LV → Bool → Option (LV × Bool × List (Bool × Bool))
  | [.v (.agg [.int .i64 a0, .int .i64 a1, .int .i64 a2, .int .i64 a3]), .v (.agg [.int .i64 b0, .int .i64 b1, .int .i64 b2, .int .i64 b3])], hb => some (.v (.agg [.int .i64 (mq0 a0 a1 a2 a3 b0 b1 b2 b3), .int .i64 (mq1 a0 a1 a2 a3 b0 b1 b2 b3), .int .i64 (mq2 a0 a1 a2 a3 b0 b1 b2 b3), .int .i64 (mq3 a0 a1 a2 a3 b0 b1 b2 b3)]), mulQH hb a0 a1 a2 a3 b0 b1 b2 b3, [])
  | _, _ => none
theorem sumMulN : SumOK Try.prog 36 (accSum 26 mulN) := by
  refine sumpm.acc_re fun args hb v h' cs hF _ => ?_
  unfold mulN at hF
  split at hF
  · cases hF; exact ⟨[], rfl, ae_nil⟩
  · cases hF
noncomputable def S45 : FuncId → Option SumK := more (more S41 49 (accSum 26 unitN)) 36 (accSum 26 mulN)
theorem sound45 : Sound Try.prog S45 := (sound41.more sumUnitN).more sumMulN
-- @@end
end Go.Proofs.Ytnabopepomjncaa

/- All summaries for the laws of chapter 7 about Units. -/
namespace Go.Proofs.Ytnabopepomjncaa
open Go.Lr
noncomputable def S46 : FuncId → Option SumK := more (more S44 49 (accSum 26 unitN)) 36 (accSum 26 mulN)
theorem sound46 : Sound Try.prog S46 := (sound44.more sumUnitN).more sumMulN
end Go.Proofs.Ytnabopepomjncaa

/- The matrices of Units: their entries. -/
namespace Go.Proofs.Ytnabopepomjncaa
open Go.Lr
set_option linter.unusedVariables false
set_option linter.unusedSimpArgs false

def rm0 (s0 s1 s2 s3 : Int) : Int := s1V 1 1 (-1) (-1) s0 s1 s2 s3
def rm1 (s0 s1 s2 s3 : Int) : Int := t1V s1 s2 (wr IntKind.i64 (0 - s0)) s3
def rm2 (s0 s1 s2 s3 : Int) : Int := t1V s1 s3 s0 s2
def rm3 (s0 s1 s2 s3 : Int) : Int := t1V s1 s2 s0 s3
def rm4 (s0 s1 s2 s3 : Int) : Int := s1V 1 (-1) 1 (-1) s0 s1 s2 s3
def rm5 (s0 s1 s2 s3 : Int) : Int := t1V s2 s3 (wr IntKind.i64 (0 - s0)) s1
def rm6 (s0 s1 s2 s3 : Int) : Int := t1V s1 s3 (wr IntKind.i64 (0 - s0)) s2
def rm7 (s0 s1 s2 s3 : Int) : Int := t1V s2 s3 s0 s1
def rm8 (s0 s1 s2 s3 : Int) : Int := s1V 1 (-1) (-1) 1 s0 s1 s2 s3
def rmF (h : Bool) (s0 s1 s2 s3 : Int) : Bool := h || s1H 1 1 (-1) (-1) s0 s1 s2 s3 || t1H s1 s2 (wr IntKind.i64 (0 - s0)) s3 || t1H s1 s3 s0 s2 || t1H s1 s2 s0 s3 || s1H 1 (-1) 1 (-1) s0 s1 s2 s3 || t1H s2 s3 (wr IntKind.i64 (0 - s0)) s1 || t1H s1 s3 (wr IntKind.i64 (0 - s0)) s2 || t1H s2 s3 s0 s1 || s1H 1 (-1) (-1) 1 s0 s1 s2 s3
def mx0 (s0 s1 s2 s3 : Int) : Int := s0 * s0 + s1 * s1 - s2 * s2 - s3 * s3
def mx1 (s0 s1 s2 s3 : Int) : Int := 2 * (s1 * s2) - 2 * (s0 * s3)
def mx2 (s0 s1 s2 s3 : Int) : Int := 2 * (s1 * s3) + 2 * (s0 * s2)
def mx3 (s0 s1 s2 s3 : Int) : Int := 2 * (s1 * s2) + 2 * (s0 * s3)
def mx4 (s0 s1 s2 s3 : Int) : Int := s0 * s0 - s1 * s1 + s2 * s2 - s3 * s3
def mx5 (s0 s1 s2 s3 : Int) : Int := 2 * (s2 * s3) - 2 * (s0 * s1)
def mx6 (s0 s1 s2 s3 : Int) : Int := 2 * (s1 * s3) - 2 * (s0 * s2)
def mx7 (s0 s1 s2 s3 : Int) : Int := 2 * (s2 * s3) + 2 * (s0 * s1)
def mx8 (s0 s1 s2 s3 : Int) : Int := s0 * s0 - s1 * s1 - s2 * s2 + s3 * s3
theorem rm_eq {s0 s1 s2 s3 : Int} (h0 : one s0) (h1 : one s1) (h2 : one s2) (h3 : one s3) :
    rm0 s0 s1 s2 s3 = rndV (mx0 s0 s1 s2 s3) 30 ∧ rm1 s0 s1 s2 s3 = rndV (mx1 s0 s1 s2 s3) 30 ∧ rm2 s0 s1 s2 s3 = rndV (mx2 s0 s1 s2 s3) 30 ∧ rm3 s0 s1 s2 s3 = rndV (mx3 s0 s1 s2 s3) 30 ∧ rm4 s0 s1 s2 s3 = rndV (mx4 s0 s1 s2 s3) 30 ∧ rm5 s0 s1 s2 s3 = rndV (mx5 s0 s1 s2 s3) 30 ∧ rm6 s0 s1 s2 s3 = rndV (mx6 s0 s1 s2 s3) 30 ∧ rm7 s0 s1 s2 s3 = rndV (mx7 s0 s1 s2 s3) 30 ∧ rm8 s0 s1 s2 s3 = rndV (mx8 s0 s1 s2 s3) 30 ∧ ∀ h, rmF h s0 s1 s2 s3 = h := by
  have w0 := wneg h0.sm.inS
  have e0 : s1V 1 1 (-1) (-1) s0 s1 s2 s3 = rndV (mx0 s0 s1 s2 s3) 30 ∧ s1H 1 1 (-1) (-1) s0 s1 s2 s3 = false := by
    unfold s1V s1H
    rw [wone h0.sm.inS, wone h1.sm.inS, wmone h2.sm.inS, wmone h3.sm.inS]
    exact dotO h0.sm h1.sm h2.sm h3.sm h0.sm h1.sm h2.sm.neg h3.sm.neg (by unfold mx0; grind)
  have e1 : t1V s1 s2 (wr IntKind.i64 (0 - s0)) s3 = rndV (mx1 s0 s1 s2 s3) 30 ∧ t1H s1 s2 (wr IntKind.i64 (0 - s0)) s3 = false := by
    unfold t1V t1H
    rw [w0]
    exact dotO h1.sm h1.sm h0.sm.neg h0.sm.neg h2.sm h2.sm h3.sm h3.sm (by unfold mx1; grind)
  have e2 : t1V s1 s3 s0 s2 = rndV (mx2 s0 s1 s2 s3) 30 ∧ t1H s1 s3 s0 s2 = false := by
    unfold t1V t1H
    exact dotO h1.sm h1.sm h0.sm h0.sm h3.sm h3.sm h2.sm h2.sm (by unfold mx2; grind)
  have e3 : t1V s1 s2 s0 s3 = rndV (mx3 s0 s1 s2 s3) 30 ∧ t1H s1 s2 s0 s3 = false := by
    unfold t1V t1H
    exact dotO h1.sm h1.sm h0.sm h0.sm h2.sm h2.sm h3.sm h3.sm (by unfold mx3; grind)
  have e4 : s1V 1 (-1) 1 (-1) s0 s1 s2 s3 = rndV (mx4 s0 s1 s2 s3) 30 ∧ s1H 1 (-1) 1 (-1) s0 s1 s2 s3 = false := by
    unfold s1V s1H
    rw [wone h0.sm.inS, wmone h1.sm.inS, wone h2.sm.inS, wmone h3.sm.inS]
    exact dotO h0.sm h1.sm h2.sm h3.sm h0.sm h1.sm.neg h2.sm h3.sm.neg (by unfold mx4; grind)
  have e5 : t1V s2 s3 (wr IntKind.i64 (0 - s0)) s1 = rndV (mx5 s0 s1 s2 s3) 30 ∧ t1H s2 s3 (wr IntKind.i64 (0 - s0)) s1 = false := by
    unfold t1V t1H
    rw [w0]
    exact dotO h2.sm h2.sm h0.sm.neg h0.sm.neg h3.sm h3.sm h1.sm h1.sm (by unfold mx5; grind)
  have e6 : t1V s1 s3 (wr IntKind.i64 (0 - s0)) s2 = rndV (mx6 s0 s1 s2 s3) 30 ∧ t1H s1 s3 (wr IntKind.i64 (0 - s0)) s2 = false := by
    unfold t1V t1H
    rw [w0]
    exact dotO h1.sm h1.sm h0.sm.neg h0.sm.neg h3.sm h3.sm h2.sm h2.sm (by unfold mx6; grind)
  have e7 : t1V s2 s3 s0 s1 = rndV (mx7 s0 s1 s2 s3) 30 ∧ t1H s2 s3 s0 s1 = false := by
    unfold t1V t1H
    exact dotO h2.sm h2.sm h0.sm h0.sm h3.sm h3.sm h1.sm h1.sm (by unfold mx7; grind)
  have e8 : s1V 1 (-1) (-1) 1 s0 s1 s2 s3 = rndV (mx8 s0 s1 s2 s3) 30 ∧ s1H 1 (-1) (-1) 1 s0 s1 s2 s3 = false := by
    unfold s1V s1H
    rw [wone h0.sm.inS, wmone h1.sm.inS, wmone h2.sm.inS, wone h3.sm.inS]
    exact dotO h0.sm h1.sm h2.sm h3.sm h0.sm h1.sm.neg h2.sm.neg h3.sm (by unfold mx8; grind)
  refine ⟨e0.1, e1.1, e2.1, e3.1, e4.1, e5.1, e6.1, e7.1, e8.1, fun h => ?_⟩
  unfold rmF
  rw [e0.2, e1.2, e2.2, e3.2, e4.2, e5.2, e6.2, e7.2, e8.2]
  simp
theorem mx_bd {s0 s1 s2 s3 : Int} (h0 : one s0) (h1 : one s1) (h2 : one s2) (h3 : one s3) : (-4611686018427387904 ≤ mx0 s0 s1 s2 s3 ∧ mx0 s0 s1 s2 s3 ≤ 4611686018427387904) ∧ (-4611686018427387904 ≤ mx1 s0 s1 s2 s3 ∧ mx1 s0 s1 s2 s3 ≤ 4611686018427387904) ∧ (-4611686018427387904 ≤ mx2 s0 s1 s2 s3 ∧ mx2 s0 s1 s2 s3 ≤ 4611686018427387904) ∧ (-4611686018427387904 ≤ mx3 s0 s1 s2 s3 ∧ mx3 s0 s1 s2 s3 ≤ 4611686018427387904) ∧ (-4611686018427387904 ≤ mx4 s0 s1 s2 s3 ∧ mx4 s0 s1 s2 s3 ≤ 4611686018427387904) ∧ (-4611686018427387904 ≤ mx5 s0 s1 s2 s3 ∧ mx5 s0 s1 s2 s3 ≤ 4611686018427387904) ∧ (-4611686018427387904 ≤ mx6 s0 s1 s2 s3 ∧ mx6 s0 s1 s2 s3 ≤ 4611686018427387904) ∧ (-4611686018427387904 ≤ mx7 s0 s1 s2 s3 ∧ mx7 s0 s1 s2 s3 ≤ 4611686018427387904) ∧ (-4611686018427387904 ≤ mx8 s0 s1 s2 s3 ∧ mx8 s0 s1 s2 s3 ≤ 4611686018427387904) := by
  have p00 := h0.mul h0
  have p01 := h0.mul h1
  have p02 := h0.mul h2
  have p03 := h0.mul h3
  have p11 := h1.mul h1
  have p12 := h1.mul h2
  have p13 := h1.mul h3
  have p22 := h2.mul h2
  have p23 := h2.mul h3
  have p33 := h3.mul h3
  unfold mx0 mx1 mx2 mx3 mx4 mx5 mx6 mx7 mx8
  refine ⟨?_, ?_, ?_, ?_, ?_, ?_, ?_, ?_, ?_⟩ <;> omega
theorem rn_sm {m w : Int} (h : RN m w) (h0 : -4611686018427387904 ≤ w ∧ w ≤ 4611686018427387904) : sm m := by unfold RN at h; unfold sm; omega
theorem dotO3 {x0 x1 x2 y0 y1 y2 w : Int} (a0 : sm x0) (a1 : sm x1) (a2 : sm x2) (b0 : sm y0) (b1 : sm y1) (b2 : sm y2) (hw : x0 * y0 + (x1 * y1 + x2 * y2) = w) :
    dotV 30 [x0, x1, x2] [y0, y1, y2] = rndV w 30 ∧ dotH 30 [x0, x1, x2] [y0, y1, y2] = false := by
  have m0 := a0.mul b0
  have m1 := a1.mul b1
  have m2 := a2.mul b2
  have e : dotS [x0, x1, x2] [y0, y1, y2] = w := by
    simp only [dotS]
    rw [a0.sat.1, a1.sat.1, a2.sat.1, b0.sat.1, b1.sat.1, b2.sat.1]
    omega
  have f : dotFl [x0, x1, x2] [y0, y1, y2] = false := by
    simp only [dotFl]
    rw [a0.sat.2, a1.sat.2, a2.sat.2, b0.sat.2, b1.sat.2, b2.sat.2]
    rfl
  obtain ⟨g1, g2⟩ := rs30 (w := w) (by omega) (by omega)
  refine ⟨?_, ?_⟩
  · show rndS (dotS [x0, x1, x2] [y0, y1, y2]) 30 = _; rw [e, g1]
  · show (dotFl [x0, x1, x2] [y0, y1, y2] || rndH (dotS [x0, x1, x2] [y0, y1, y2]) 30) = _; rw [e, f, g2]; rfl
/-- A product of two rounded numbers. -/
theorem rowt {m n M N : Int} (hm : RN m M) (hn : RN n N) (bM : -4611686018427387904 ≤ M ∧ M ≤ 4611686018427387904) (bN : -4611686018427387904 ≤ N ∧ N ≤ 4611686018427387904) :
    -19807040629719007258409009152 ≤ 4611686018427387904 * (m * n) - 4 * (M * N) ∧ 4611686018427387904 * (m * n) - 4 * (M * N) ≤ 19807040629719007258409009152 := by
  have e : 4611686018427387904 * (m * n) - 4 * (M * N) = 2 * (M * (2 * (n * 1073741824 - N))) + 2 * (N * (2 * (m * 1073741824 - M))) + 2 * (m * 1073741824 - M) * (2 * (n * 1073741824 - N)) := by grind
  have a := prod_lt (a := M) (b := 2 * (n * 1073741824 - N)) (k := 4611686018427387904) (l := 1073741824) (by unfold absV; split <;> omega) (by unfold RN at hn; unfold absV; split <;> omega)
  have b := prod_lt (a := N) (b := 2 * (m * 1073741824 - M)) (k := 4611686018427387904) (l := 1073741824) (by unfold absV; split <;> omega) (by unfold RN at hm; unfold absV; split <;> omega)
  have c := prod_lt (a := 2 * (m * 1073741824 - M)) (b := 2 * (n * 1073741824 - N)) (k := 1073741824) (l := 1073741824) (by unfold RN at hm; unfold absV; split <;> omega) (by unfold RN at hn; unfold absV; split <;> omega)
  rw [e]
  omega
-- @@end
end Go.Proofs.Ytnabopepomjncaa

/- All summaries for the laws about levels: headings of the second answer by name. -/
namespace Go.Proofs.Ytnabopepomjncaa
open Go.Lr
set_option linter.unusedVariables false
def fyA (a : Int) : Int := mulV (wrapV a) 536870912 30
def fy0 (a : Int) : Int := uV0 (cosV (fyA a)) 0 0 (sinV (fyA a))
def fy1 (a : Int) : Int := uV1 (cosV (fyA a)) 0 0 (sinV (fyA a))
def fy2 (a : Int) : Int := uV2 (cosV (fyA a)) 0 0 (sinV (fyA a))
def fy3 (a : Int) : Int := uV3 (cosV (fyA a)) 0 0 (sinV (fyA a))
def fyFl (hb : Bool) (a : Int) : Bool := uFl (sinH (fyA a) (cosH (fyA a) (hb || mulH (wrapV a) 536870912 30))) (cosV (fyA a)) 0 0 (sinV (fyA a))
def fyN : List LV → Bool → Option (LV × Bool × List (Bool × Bool))
  | [.v (.one (.int .i64 a))], hb => some (.v (.agg [.int .i64 (fy0 a), .int .i64 (fy1 a), .int .i64 (fy2 a), .int .i64 (fy3 a)]), fyFl hb a, [])
  | _, _ => none
theorem sumPfyN : SumOK Try.prog 47 (accSum 26 fyN) := by
  refine sumPfy.acc_re fun args hb v h' cs hF _ => ?_
  unfold fyN at hF
  split at hF
  · cases hF; exact ⟨[], rfl, ae_nil⟩
  · cases hF
/-- A matrix by its entries' names. -/
def ofN : List LV → Bool → Option (LV × Bool × List (Bool × Bool))
  | [.v (.agg [.int .i64 a0, .int .i64 a1, .int .i64 a2, .int .i64 a3])], hb => some (.v (.agg [.int .i64 (rm0 (satV a0) (satV a1) (satV a2) (satV a3)), .int .i64 (rm1 (satV a0) (satV a1) (satV a2) (satV a3)), .int .i64 (rm2 (satV a0) (satV a1) (satV a2) (satV a3)), .int .i64 (rm3 (satV a0) (satV a1) (satV a2) (satV a3)), .int .i64 (rm4 (satV a0) (satV a1) (satV a2) (satV a3)), .int .i64 (rm5 (satV a0) (satV a1) (satV a2) (satV a3)), .int .i64 (rm6 (satV a0) (satV a1) (satV a2) (satV a3)), .int .i64 (rm7 (satV a0) (satV a1) (satV a2) (satV a3)), .int .i64 (rm8 (satV a0) (satV a1) (satV a2) (satV a3))]), rmF (hb || satH a0 || satH a1 || satH a2 || satH a3) (satV a0) (satV a1) (satV a2) (satV a3), [])
  | _, _ => none
theorem sumOfN : SumOK Try.prog 93 (accSum 26 ofN) := by
  refine sumrof.acc_re fun args hb v h' cs hF _ => ?_
  unfold ofN at hF
  split at hF
  · cases hF; exact ⟨[], rfl, ae_nil⟩
  · cases hF
noncomputable def S47 : FuncId → Option SumK := more (more S46 93 (accSum 26 ofN)) 47 (accSum 26 fyN)
theorem sound47 : Sound Try.prog S47 := (sound46.more sumOfN).more sumPfyN
-- @@end
end Go.Proofs.Ytnabopepomjncaa

/- A summary less: the function is walked into again. -/
namespace Go.Lr
def dropS (S : FuncId → Option SumK) (f : FuncId) : FuncId → Option SumK := fun g =>
  match Nat.beq g f with
  | true => none
  | false => S g
theorem Sound.drop {P : Program} {S : FuncId → Option SumK} (h : Sound P S) (f : FuncId) : Sound P (dropS S f) := by
  refine ⟨fun g t hg => ?_, h.mix, h.ng⟩
  unfold dropS at hg
  split at hg
  · cases hg
  · exact h.sums g t hg
/-- Lists of decisions: so many that the kernel knows, so many that are true, false. -/
def nn : Nat → List (Option Bool) → List (Option Bool)
  | 0, l => l
  | n + 1, l => none :: nn n l
def tt : Nat → List (Option Bool) → List (Option Bool)
  | 0, l => l
  | n + 1, l => some true :: tt n l
def ff : Nat → List (Option Bool) → List (Option Bool)
  | 0, l => l
  | n + 1, l => some false :: ff n l
/-- The same asked so often. -/
def ra : Nat → Bool × Bool → List (Bool × Bool) → List (Bool × Bool)
  | 0, _, l => l
  | n + 1, c, l => c :: ra n c l
theorem ra_ok {c : Bool × Bool} {l : List (Bool × Bool)} (h : c.1 = c.2) (hl : ∀ d ∈ l, d.1 = d.2) : ∀ (n : Nat), ∀ d ∈ ra n c l, d.1 = d.2
  | 0 => hl
  | n + 1 => by
    intro d hd
    simp only [ra, List.mem_cons] at hd
    rcases hd with rfl | hd
    · exact h
    · exact ra_ok h hl n d hd
end Go.Lr

/- All summaries for the laws of chapter 21. -/
namespace Go.Proofs.Ytnabopepomjncaa
open Go.Lr
noncomputable def S52 : FuncId → Option SumK := dropS (dropS (dropS (dropS S47 105) 50) 100) 48
theorem sound52 : Sound Try.prog S52 := (((sound47.drop _).drop _).drop _).drop _
noncomputable def S53 : FuncId → Option SumK := more (moreG S52 98 (autoA Try.prog S52 Zl 2000 98)) 45 (pureSum trueF)
theorem sound53 : Sound Try.prog S53 := (sound52.moreG (autoA_ok sound52 (own_of sound52 Try.func98 (by kernel_rfl)))).more sumAwakeM
end Go.Proofs.Ytnabopepomjncaa

/- mag.points has a summary; mag.Level on top of it. -/
namespace Go.Proofs.Ytnabopepomjncaa
open Go.Lr Go.RowKit
set_option linter.unusedVariables false

def ptV (a b : Int) : Int := bif decide (hypV [a, b] < 16777216) then 0 else atanV b a
def ptH (h : Bool) (a b : Int) : Bool := bif decide (hypV [a, b] < 16777216) then h || hypH [a, b] else atanH b a (h || hypH [a, b])
def pointsS : List LV → Bool → Option (LV × Bool × List (Bool × Bool))
  | [.v (.agg [.int .i64 a, .int .i64 b, .int .i64 c])], hb => some (.tup [.one (.int .i64 (ptV a b)), .one (.bool (!decide (hypV [a, b] < 16777216)))], ptH hb a b, [])
  | _, _ => none
theorem ptT (a b c : Int) (hb : Bool) : (runF Try.prog S52 Zl 2000 105 [A0, .v (.agg [.int .i64 a, .int .i64 b, .int .i64 c])] [(0, flag 26 hb)] 1 [some true]).map acc3 = some (.tup [.one (.int .i64 0), .one (.bool false)], some (flag 26 (hb || hypH [a, b])), [(decide (hypV [a, b] < 16777216), true)]) := by kernel_rfl
theorem ptF (a b c : Int) (hb : Bool) : (runF Try.prog S52 Zl 2000 105 [A0, .v (.agg [.int .i64 a, .int .i64 b, .int .i64 c])] [(0, flag 26 hb)] 1 [some false]).map acc3 = some (.tup [.one (.int .i64 (atanV b a)), .one (.bool true)], some (flag 26 (atanH b a (hb || hypH [a, b]))), [(decide (hypV [a, b] < 16777216), false)]) := by kernel_rfl
theorem sumPoints : SumOK Try.prog 105 (accSum 26 pointsS) := by
  refine accSum_run (z := Zl) sound52 (own_of sound52 Try.func105 (by kernel_rfl)) fun args hb v h' cs hF hc => ?_
  unfold pointsS at hF
  split at hF
  · rename_i a b c
    cases hF
    refine ⟨rfl, ?_⟩
    unfold ptV ptH
    rcases bool_cases (decide (hypV [a, b] < 16777216)) with h | h
    · rw [h]; exact ⟨2000, _, _, ptT a b c hb, ae_cons h ae_nil⟩
    · rw [h]; exact ⟨2000, _, _, ptF a b c hb, ae_cons h ae_nil⟩
  · cases hF
noncomputable def S56 : FuncId → Option SumK := more S53 105 (accSum 26 pointsS)
theorem sound56 : Sound Try.prog S56 := sound53.more sumPoints
def lvX (q0 q1 q2 q3 b0 b1 b2 : Int) : Int := dotV 30 [rm0 (satV q0) (satV q1) (satV q2) (satV q3), rm1 (satV q0) (satV q1) (satV q2) (satV q3), rm2 (satV q0) (satV q1) (satV q2) (satV q3)] [b0, b1, b2]
def lvY (q0 q1 q2 q3 b0 b1 b2 : Int) : Int := dotV 30 [rm3 (satV q0) (satV q1) (satV q2) (satV q3), rm4 (satV q0) (satV q1) (satV q2) (satV q3), rm5 (satV q0) (satV q1) (satV q2) (satV q3)] [b0, b1, b2]
def lvC (q0 q1 q2 q3 b0 b1 b2 : Int) : Bool := decide (hypV [lvX q0 q1 q2 q3 b0 b1 b2, lvY q0 q1 q2 q3 b0 b1 b2] < 16777216)
def lvA (q0 q1 q2 q3 b0 b1 b2 dc : Int) : Int := wrapV (subV dc (ptV (lvX q0 q1 q2 q3 b0 b1 b2) (lvY q0 q1 q2 q3 b0 b1 b2)))
def lvH (h : Bool) (q0 q1 q2 q3 b0 b1 b2 dc : Int) : Bool := ptH (rmF (h || satH q0 || satH q1 || satH q2 || satH q3) (satV q0) (satV q1) (satV q2) (satV q3) || dotH 30 [rm0 (satV q0) (satV q1) (satV q2) (satV q3), rm1 (satV q0) (satV q1) (satV q2) (satV q3), rm2 (satV q0) (satV q1) (satV q2) (satV q3)] [b0, b1, b2] || dotH 30 [rm3 (satV q0) (satV q1) (satV q2) (satV q3), rm4 (satV q0) (satV q1) (satV q2) (satV q3), rm5 (satV q0) (satV q1) (satV q2) (satV q3)] [b0, b1, b2] || dotH 30 [rm6 (satV q0) (satV q1) (satV q2) (satV q3), rm7 (satV q0) (satV q1) (satV q2) (satV q3), rm8 (satV q0) (satV q1) (satV q2) (satV q3)] [b0, b1, b2]) (lvX q0 q1 q2 q3 b0 b1 b2) (lvY q0 q1 q2 q3 b0 b1 b2)
def levelS : List LV → Bool → Option (LV × Bool × List (Bool × Bool))
  | [.v (.agg [.int .i64 q0, .int .i64 q1, .int .i64 q2, .int .i64 q3]), .v (.agg [.int .i64 b0, .int .i64 b1, .int .i64 b2, .int .i64 vr]), .v (.one (.int .i64 dc))], hb => some (.tup [.one (.int .i64 (bif lvC q0 q1 q2 q3 b0 b1 b2 then 0 else lvA q0 q1 q2 q3 b0 b1 b2 dc)), .one (.int .i64 (bif lvC q0 q1 q2 q3 b0 b1 b2 then 4 else 0))], (bif lvC q0 q1 q2 q3 b0 b1 b2 then lvH hb q0 q1 q2 q3 b0 b1 b2 dc else lvH hb q0 q1 q2 q3 b0 b1 b2 dc || subH dc (ptV (lvX q0 q1 q2 q3 b0 b1 b2) (lvY q0 q1 q2 q3 b0 b1 b2))), [])
  | _, _ => none
theorem lvT (q0 q1 q2 q3 b0 b1 b2 vr dc : Int) (hb : Bool) : (runF Try.prog S56 Zl 2000 48 [A0, .v (.agg [.int .i64 q0, .int .i64 q1, .int .i64 q2, .int .i64 q3]), .v (.agg [.int .i64 b0, .int .i64 b1, .int .i64 b2, .int .i64 vr]), I dc] [(0, flag 26 hb)] 1 [some true]).map acc3 = some (.tup [.one (.int .i64 0), .one (.int .i64 4)], some (flag 26 (lvH hb q0 q1 q2 q3 b0 b1 b2 dc)), [(!!lvC q0 q1 q2 q3 b0 b1 b2, true)]) := by kernel_rfl
theorem lvF (q0 q1 q2 q3 b0 b1 b2 vr dc : Int) (hb : Bool) : (runF Try.prog S56 Zl 2000 48 [A0, .v (.agg [.int .i64 q0, .int .i64 q1, .int .i64 q2, .int .i64 q3]), .v (.agg [.int .i64 b0, .int .i64 b1, .int .i64 b2, .int .i64 vr]), I dc] [(0, flag 26 hb)] 1 [some false, none, none, none, none]).map acc3 = some (.tup [.one (.int .i64 (lvA q0 q1 q2 q3 b0 b1 b2 dc)), .one (.int .i64 0)], some (flag 26 (lvH hb q0 q1 q2 q3 b0 b1 b2 dc || subH dc (ptV (lvX q0 q1 q2 q3 b0 b1 b2) (lvY q0 q1 q2 q3 b0 b1 b2)))), [(!!lvC q0 q1 q2 q3 b0 b1 b2, false)]) := by kernel_rfl
theorem sumLevel : SumOK Try.prog 48 (accSum 26 levelS) := by
  refine accSum_run (z := Zl) sound56 (own_of sound56 Try.func48 (by kernel_rfl)) fun args hb v h' cs hF hc => ?_
  unfold levelS at hF
  split at hF
  · rename_i q0 q1 q2 q3 b0 b1 b2 vr dc
    cases hF
    refine ⟨rfl, ?_⟩
    rcases bool_cases (lvC q0 q1 q2 q3 b0 b1 b2) with h | h
    · rw [h]; exact ⟨2000, _, _, lvT q0 q1 q2 q3 b0 b1 b2 vr dc hb, ae_cons (by rw [h]; rfl) ae_nil⟩
    · rw [h]; exact ⟨2000, _, _, lvF q0 q1 q2 q3 b0 b1 b2 vr dc hb, ae_cons (by rw [h]; rfl) ae_nil⟩
  · cases hF
noncomputable def S57 : FuncId → Option SumK := more S56 48 (accSum 26 levelS)
theorem sound57 : Sound Try.prog S57 := sound56.more sumLevel
end Go.Proofs.Ytnabopepomjncaa

/- Polynomials with whole coefficients, in one and in two numbers: their values, sums, products; bounds by the coefficients' sizes. Plain. -/
namespace Go.Tg
set_option linter.unusedVariables false

/-- The value: the lowest coefficient first. -/
def pv : List Int → Int → Int
  | [], _ => 0
  | a :: l, x => a + x * pv l x
def padd : List Int → List Int → List Int
  | [], m => m
  | a :: l, [] => a :: l
  | a :: l, b :: m => (a + b) :: padd l m
def psm (k : Int) : List Int → List Int
  | [] => []
  | a :: l => (k * a) :: psm k l
def pmul : List Int → List Int → List Int
  | [], _ => []
  | a :: l, m => padd (psm a m) (0 :: pmul l m)
def pabs : List Int → List Int
  | [] => []
  | a :: l => (a.natAbs : Int) :: pabs l
theorem pv_add : ∀ (l m : List Int) (x : Int), pv (padd l m) x = pv l x + pv m x
  | [], m, x => by simp [padd, pv]
  | a :: l, [], x => by simp [padd, pv]
  | a :: l, b :: m, x => by
    simp only [padd, pv, pv_add l m x]; grind
theorem pv_sm (k : Int) : ∀ (l : List Int) (x : Int), pv (psm k l) x = k * pv l x
  | [], x => by simp [psm, pv]
  | a :: l, x => by simp only [psm, pv, pv_sm k l x]; grind
theorem pv_mul : ∀ (l m : List Int) (x : Int), pv (pmul l m) x = pv l x * pv m x
  | [], m, x => by simp [pmul, pv]
  | a :: l, m, x => by
    simp only [pmul, pv_add, pv_sm, pv, pv_mul l m x]; grind
theorem abs_le {a : Int} {k : Int} : (a.natAbs : Int) ≤ k ↔ -k ≤ a ∧ a ≤ k := by omega
theorem abs_mul_le {a b k l : Int} (ha : (a.natAbs : Int) ≤ k) (hb : (b.natAbs : Int) ≤ l) : ((a * b).natAbs : Int) ≤ k * l := by
  rw [Int.natAbs_mul, Int.natCast_mul]
  exact Int.mul_le_mul ha hb (by omega) (by omega)
theorem pv_abs {x R : Int} (hx : (x.natAbs : Int) ≤ R) : ∀ l : List Int, ((pv l x).natAbs : Int) ≤ pv (pabs l) R
  | [] => by simp [pv, pabs]
  | a :: l => by
    have h := abs_mul_le hx (pv_abs hx l)
    simp only [pv, pabs]
    have h2 := Int.natAbs_add_le a (x * pv l x)
    omega
theorem pv_abs_nn {R : Int} (hR : 0 ≤ R) : ∀ l : List Int, 0 ≤ pv (pabs l) R
  | [] => by simp [pv, pabs]
  | a :: l => by
    have := Int.mul_nonneg hR (pv_abs_nn hR l)
    simp only [pv, pabs]; omega
/-- The growth of a polynomial. -/
def lip : List Int → Int → Int
  | [], _ => 0
  | _ :: l, R => pv (pabs l) R + R * lip l R
theorem pv_lip {x y R d : Int} (hx : (x.natAbs : Int) ≤ R) (hy : (y.natAbs : Int) ≤ R) (hd : ((x - y).natAbs : Int) ≤ d) : ∀ l : List Int, ((pv l x - pv l y).natAbs : Int) ≤ d * lip l R
  | [] => by simp [pv, lip]
  | a :: l => by
    have h1 := abs_mul_le hd (pv_abs hx l)
    have h2 := abs_mul_le hy (pv_lip hx hy hd l)
    have e : pv (a :: l) x - pv (a :: l) y = (x - y) * pv l x + y * (pv l x - pv l y) := by simp only [pv]; grind
    have e2 : d * lip (a :: l) R = d * pv (pabs l) R + R * (d * lip l R) := by simp only [lip]; grind
    rw [e, e2]
    have h3 := Int.natAbs_add_le ((x - y) * pv l x) (y * (pv l x - pv l y))
    omega

/-- Its signs turned; turned at the odd places. -/
def pneg : List Int → List Int
  | [] => []
  | a :: l => (-a) :: pneg l
def alt : List Int → List Int
  | [] => []
  | a :: l => a :: pneg (alt l)
theorem pv_pneg : ∀ (l : List Int) (x : Int), pv (pneg l) x = -pv l x
  | [], x => rfl
  | a :: l, x => by simp only [pneg, pv, pv_pneg l x]; grind

/-- Two numbers. -/
def ev2 : List (List Int) → Int → Int → Int
  | [], _, _ => 0
  | p :: l, x, y => pv p x + y * ev2 l x y
def add2 : List (List Int) → List (List Int) → List (List Int)
  | [], m => m
  | a :: l, [] => a :: l
  | a :: l, b :: m => padd a b :: add2 l m
def sm2 (k : Int) : List (List Int) → List (List Int)
  | [] => []
  | a :: l => psm k a :: sm2 k l
def out2 (p : List Int) : List Int → List (List Int)
  | [] => []
  | b :: l => psm b p :: out2 p l
def shx : List (List Int) → List (List Int)
  | [] => []
  | a :: l => (0 :: a) :: shx l
def sumP : List Int → List (List Int)
  | [] => []
  | a :: l => add2 [[a]] (add2 (shx (sumP l)) ([] :: sumP l))
def abs2 : List (List Int) → List (List Int)
  | [] => []
  | a :: l => pabs a :: abs2 l
theorem ev2_add : ∀ (l m : List (List Int)) (x y : Int), ev2 (add2 l m) x y = ev2 l x y + ev2 m x y
  | [], m, x, y => by simp [add2, ev2]
  | a :: l, [], x, y => by simp [add2, ev2]
  | a :: l, b :: m, x, y => by simp only [add2, ev2, pv_add, ev2_add l m x y]; grind
theorem ev2_sm (k : Int) : ∀ (l : List (List Int)) (x y : Int), ev2 (sm2 k l) x y = k * ev2 l x y
  | [], x, y => by simp [sm2, ev2]
  | a :: l, x, y => by simp only [sm2, ev2, pv_sm, ev2_sm k l x y]; grind
theorem ev2_out (p : List Int) : ∀ (q : List Int) (x y : Int), ev2 (out2 p q) x y = pv p x * pv q y
  | [], x, y => by simp [out2, ev2, pv]
  | b :: l, x, y => by simp only [out2, ev2, pv, pv_sm, ev2_out p l x y]; grind
theorem ev2_shx : ∀ (l : List (List Int)) (x y : Int), ev2 (shx l) x y = x * ev2 l x y
  | [], x, y => by simp [shx, ev2]
  | a :: l, x, y => by simp only [shx, ev2, pv, ev2_shx l x y]; grind
theorem ev2_sumP : ∀ (l : List Int) (x y : Int), ev2 (sumP l) x y = pv l (x + y)
  | [], x, y => by simp [sumP, ev2, pv]
  | a :: l, x, y => by simp only [sumP, ev2_add, ev2_shx, ev2, pv, ev2_sumP l x y]; grind
theorem ev2_abs {x y R S : Int} (hx : (x.natAbs : Int) ≤ R) (hy : (y.natAbs : Int) ≤ S) : ∀ l : List (List Int), ((ev2 l x y).natAbs : Int) ≤ ev2 (abs2 l) R S
  | [] => by simp [ev2, abs2]
  | a :: l => by
    have h := abs_mul_le hy (ev2_abs hx hy l)
    have h1 := pv_abs hx a
    simp only [ev2, abs2]
    have h2 := Int.natAbs_add_le (pv a x) (y * ev2 l x y)
    omega
/-- Less or equal, for the kernel. -/
def leB (a b : Int) : Bool := decide (a ≤ b)
theorem leB_le {a b : Int} (h : leB a b = true) : a ≤ b := of_decide_eq_true h
end Go.Tg

/- The reference's cosine and sine: partial sums of their series, as polynomials with whole coefficients; the sums of angles. Plain. -/
namespace Go.Tg
set_option linter.unusedVariables false

/-- One, and the quarter turn. -/
abbrev U : Int := 1073741824
abbrev Qt : Int := 1686629713
/-- The scale: 25! * 2^750. -/
def MN : Int := 15511210043330985984000000 * 1073741824 ^ 25
/-- The n-th coefficients, from n on, k of them: d the coefficient's size (25!/n! * 2^(30 (25-n))). -/
def tayF : Nat → Int → Int → Bool → Bool → List Int
  | 0, _, _, _, _ => []
  | k + 1, n, d, odd, neg =>
    (match odd with
    | true => 0
    | false => match neg with
      | true => -d
      | false => d) :: tayF k (n + 1) (d / ((n + 1) * 1073741824)) (!odd) (match odd with
        | true => neg
        | false => !neg)
def cosL : List Int := tayF 26 0 MN false false
/-- The sine's: as the cosine's, at the odd places. -/
def sinL : List Int := 0 :: tayF 25 1 (MN / 1073741824) false false
def eL (R : Int) (l : List (List Int)) : Bool := leB (1099511627776 * ev2 (abs2 l) R R) (MN * MN)
theorem chk1 : eL 1700000000 (add2 (add2 (out2 cosL cosL) (sm2 (-1) (out2 sinL sinL))) (sm2 (-MN) (sumP cosL))) = true := by kernel_rfl
theorem chk2 : eL 1700000000 (add2 (add2 (out2 sinL cosL) (out2 cosL sinL)) (sm2 (-MN) (sumP sinL))) = true := by kernel_rfl
/-- Within a bound. -/
def nb (a k : Int) : Prop := -k ≤ a ∧ a ≤ k
theorem nb.abs {a k : Int} (h : nb a k) : (a.natAbs : Int) ≤ k := by unfold nb at h; omega
theorem nb.of {a k : Int} (h : (a.natAbs : Int) ≤ k) : nb a k := by unfold nb; omega
theorem nb.mul {a b k l : Int} (h : nb a k) (g : nb b l) : nb (a * b) (k * l) := nb.of (abs_mul_le h.abs g.abs)
theorem nb.add {a b k l : Int} (h : nb a k) (g : nb b l) : nb (a + b) (k + l) := by unfold nb at *; omega
theorem nb.sub {a b k l : Int} (h : nb a k) (g : nb b l) : nb (a - b) (k + l) := by unfold nb at *; omega
theorem nb.neg {a k : Int} (h : nb a k) : nb (-a) k := by unfold nb at *; omega
theorem nb.le {a k l : Int} (h : nb a k) (g : k ≤ l) : nb a l := by unfold nb at *; omega
theorem nb.lmul {a k m : Int} (h : nb a k) (hm : 0 ≤ m) : nb (m * a) (m * k) := by
  have h1 := Int.mul_le_mul_of_nonneg_left h.2 hm
  have h2 := Int.mul_le_mul_of_nonneg_left h.1 hm
  rw [Int.mul_neg] at h2
  exact ⟨h2, h1⟩
theorem nb.cancel {a k m : Int} (hm : 0 < m) (h : nb (m * a) (m * k)) : nb a k := by
  refine ⟨?_, Int.le_of_mul_le_mul_left h.2 hm⟩
  have h1 := h.1
  rw [← Int.mul_neg] at h1
  exact Int.le_of_mul_le_mul_left h1 hm

def Cp (x : Int) : Int := pv cosL x
def Sp (x : Int) : Int := pv sinL x
theorem MN_pos : 0 < MN := by decide +kernel
theorem pv_neg : ∀ (l : List Int) (x : Int), pv l (-x) = pv (alt l) x
  | [], x => rfl
  | a :: l, x => by
    have h := pv_neg l x
    have h2 : pv (pneg (alt l)) x = -pv (alt l) x := pv_pneg _ _
    simp only [pv, alt, h, h2]; grind
theorem Cp_neg (x : Int) : Cp (-x) = Cp x := by
  unfold Cp; rw [pv_neg, show alt cosL = cosL by kernel_rfl]
theorem Sp_neg (x : Int) : Sp (-x) = -Sp x := by
  unfold Sp; rw [pv_neg, show alt sinL = pneg sinL by kernel_rfl, pv_pneg]
theorem eL_nb {R x y : Int} {l : List (List Int)} (h : eL R l = true) (hx : nb x R) (hy : nb y R) : nb (1099511627776 * ev2 l x y) (MN * MN) := by
  have h1 := leB_le h
  have h2 := ev2_abs hx.abs hy.abs l
  unfold nb
  omega
theorem add_c {x y : Int} (hx : nb x 1700000000) (hy : nb y 1700000000) : nb (1099511627776 * (Cp x * Cp y - Sp x * Sp y - MN * Cp (x + y))) (MN * MN) := by
  have h := eL_nb chk1 hx hy
  rw [ev2_add, ev2_add, ev2_sm, ev2_sm, ev2_out, ev2_out, ev2_sumP] at h
  have e : Cp x * Cp y - Sp x * Sp y - MN * Cp (x + y) = pv cosL x * pv cosL y + -1 * (pv sinL x * pv sinL y) + -MN * pv cosL (x + y) := by unfold Cp Sp; grind
  rw [e]; exact h
theorem add_s {x y : Int} (hx : nb x 1700000000) (hy : nb y 1700000000) : nb (1099511627776 * (Sp x * Cp y + Cp x * Sp y - MN * Sp (x + y))) (MN * MN) := by
  have h := eL_nb chk2 hx hy
  rw [ev2_add, ev2_add, ev2_sm, ev2_out, ev2_out, ev2_sumP] at h
  have e : Sp x * Cp y + Cp x * Sp y - MN * Sp (x + y) = pv sinL x * pv cosL y + pv cosL x * pv sinL y + -MN * pv sinL (x + y) := by unfold Cp Sp; grind
  rw [e]; exact h
theorem Cp_0 : Cp 0 = MN := by unfold Cp; kernel_rfl
/-- At the quarter turn. -/
theorem Cp_Q : nb (8589934592 * Cp 1686629713) MN := ⟨leB_le (by kernel_rfl), leB_le (by kernel_rfl)⟩
theorem Sp_Q : nb (1099511627776 * (Sp 1686629713 - MN)) MN := ⟨leB_le (by kernel_rfl), leB_le (by kernel_rfl)⟩
/-- Neither is much over one. -/
theorem one_of {M T c s : Int} (hM : 0 < M) (h : 1099511627776 * (c * c + s * s - M * M) ≤ M * M) (hT : s = M + T) : 2199023255552 * T ≤ M := by
  rcases Int.lt_or_le M (2199023255552 * T) with g | g
  · exfalso
    have hc : 0 ≤ c * c := by
      rcases Int.le_total 0 c with k | k
      · exact Int.mul_nonneg k k
      · exact Int.mul_nonneg_of_nonpos_of_nonpos k k
    have hT2 : 0 < T := by omega
    have hTT : 0 ≤ T * T := Int.mul_nonneg (by omega) (by omega)
    have e : s * s = M * M + 2 * (M * T) + T * T := by rw [hT]; grind
    have k : M * M < M * (2199023255552 * T) := Int.mul_lt_mul_of_pos_left g hM
    have e2 : M * (2199023255552 * T) = 2199023255552 * (M * T) := by grind
    omega
  · exact g
theorem sq_1 {x : Int} (hx : nb x 1700000000) : 1099511627776 * (Cp x * Cp x + Sp x * Sp x - MN * MN) ≤ MN * MN ∧ -(MN * MN) ≤ 1099511627776 * (Cp x * Cp x + Sp x * Sp x - MN * MN) := by
  have h := add_c hx hx.neg
  rw [show x + -x = 0 by omega, Cp_0, Cp_neg, Sp_neg] at h
  have e : Cp x * Cp x - Sp x * -Sp x - MN * MN = Cp x * Cp x + Sp x * Sp x - MN * MN := by grind
  rw [e] at h
  exact ⟨h.2, h.1⟩
theorem Sp_one {x : Int} (hx : nb x 1700000000) : nb (2199023255552 * Sp x) (2199023255553 * MN) := by
  obtain ⟨h, -⟩ := sq_1 hx
  have h1 := one_of (c := Cp x) MN_pos h (show Sp x = MN + (Sp x - MN) by omega)
  have h2 := one_of (c := Cp x) (s := -Sp x) MN_pos (by rw [Int.neg_mul_neg]; exact h) (show -Sp x = MN + (-Sp x - MN) by omega)
  unfold nb
  generalize Sp x = s at *
  generalize MN = m at *
  omega
theorem Cp_one {x : Int} (hx : nb x 1700000000) : nb (2199023255552 * Cp x) (2199023255553 * MN) := by
  obtain ⟨h, -⟩ := sq_1 hx
  rw [Int.add_comm (Cp x * Cp x)] at h
  have h1 := one_of (c := Sp x) MN_pos h (show Cp x = MN + (Cp x - MN) by omega)
  have h2 := one_of (c := Sp x) (s := -Cp x) MN_pos (by rw [Int.neg_mul_neg]; exact h) (show -Cp x = MN + (-Cp x - MN) by omega)
  unfold nb
  generalize Cp x = s at *
  generalize MN = m at *
  omega
/-- The cosine is the sine of what lacks to a quarter. -/
theorem co_eq {w : Int} (hw : nb w 1700000000) : nb (4294967296 * (Cp (1686629713 - w) - Sp w)) MN ∧ nb (4294967296 * (Sp (1686629713 - w) - Cp w)) MN := by
  have hQ : nb 1686629713 1700000000 := by unfold nb; omega
  have c := add_c hQ hw.neg
  have s := add_s hQ hw.neg
  rw [Cp_neg, Sp_neg, show (1686629713 : Int) + -w = 1686629713 - w by omega] at c s
  have q1 := Cp_Q
  have q2 := Sp_Q
  have o1 := Sp_one hw
  have o2 := Cp_one hw
  have hM := MN_pos
  generalize Cp 1686629713 = cq at *
  generalize Sp 1686629713 = sq at *
  generalize Cp (1686629713 - w) = a at *
  generalize Sp (1686629713 - w) = b at *
  generalize Cp w = cw at *
  generalize Sp w = sw at *
  generalize MN = M at *
  have p1 := q1.mul o2
  have p2 := q2.mul o1
  have p3 := q1.mul o1
  have p4 := q2.mul o2
  constructor
  · refine nb.cancel hM ?_
    have e1 : cq * cw - sq * -sw - M * a = cq * cw + (sq - M) * sw - M * (a - sw) := by grind
    rw [e1] at c
    have e2 : 8589934592 * cq * (2199023255552 * cw) = 18889465931478580854784 * (cq * cw) := by grind
    have e3 : 1099511627776 * (sq - M) * (2199023255552 * sw) = 2417851639229258349412352 * ((sq - M) * sw) := by grind
    have e4 : M * (4294967296 * (a - sw)) = 4294967296 * (M * (a - sw)) := by grind
    have e5 : M * (2199023255553 * M) = 2199023255553 * (M * M) := by grind
    rw [e2, e5] at p1
    rw [e3, e5] at p2
    rw [e4]
    unfold nb at *
    generalize M * (a - sw) = A at *
    generalize cq * cw = B at *
    generalize (sq - M) * sw = D at *
    generalize M * M = MM at *
    omega
  · refine nb.cancel hM ?_
    have e1 : sq * cw + cq * -sw - M * b = (sq - M) * cw - cq * sw - M * (b - cw) := by grind
    rw [e1] at s
    have e2 : 8589934592 * cq * (2199023255552 * sw) = 18889465931478580854784 * (cq * sw) := by grind
    have e3 : 1099511627776 * (sq - M) * (2199023255552 * cw) = 2417851639229258349412352 * ((sq - M) * cw) := by grind
    have e4 : M * (4294967296 * (b - cw)) = 4294967296 * (M * (b - cw)) := by grind
    have e5 : M * (2199023255553 * M) = 2199023255553 * (M * M) := by grind
    rw [e2, e5] at p3
    rw [e3, e5] at p4
    rw [e4]
    unfold nb at *
    generalize M * (b - cw) = A at *
    generalize cq * sw = B at *
    generalize (sq - M) * cw = D at *
    generalize M * M = MM at *
    omega
end Go.Tg

/- The program's sine and cosine against the reference's: how far off they are; the ways they turn. Plain. -/
namespace Go.Proofs.Ytnabopepomjncaa
open Go.Lr Go.Tg
set_option linter.unusedVariables false
set_option linter.unusedSimpArgs false

/-- A series' exact value, times W. -/
def hP (x2 : Int) : Int → Int → List Int → Int
  | p, _, [] => p
  | p, w, k :: l => hP x2 (k * (w * 1152921504606846976) + x2 * p) (w * 1152921504606846976) l
def hW : Int → List Int → Int
  | w, [] => w
  | w, _ :: l => hW (w * 1152921504606846976) l
def hL : List Int → Int → List Int → List Int
  | q, _, [] => q
  | q, w, k :: l => hL ((k * (w * 1152921504606846976)) :: q) (w * 1152921504606846976) l
theorem hP_ev (x2 : Int) : ∀ (l q : List Int) (w : Int), hP x2 (pv q x2) w l = pv (hL q w l) x2
  | [], q, w => rfl
  | k :: l, q, w => hP_ev x2 l ((k * (w * 1152921504606846976)) :: q) (w * 1152921504606846976)
/-- In the number itself, where the series is one of its square. -/
def sprd : List Int → List Int
  | [] => []
  | a :: l => a :: 0 :: sprd l
theorem pv_sprd (x : Int) : ∀ l : List Int, pv (sprd l) x = pv l (x * x)
  | [] => rfl
  | a :: l => by simp only [sprd, pv, pv_sprd x l]; grind

theorem mul30 {a b : Int} (ha : nb a 4294967296) (hb : nb b 4294967296) : nb (2 * (mulV a b 30 * 1073741824 - a * b)) 1073741824 := by
  have h := rnd_bd (a * b) 30
  rw [show pow2 30 = 1073741824 from rfl] at h
  have hp := ha.mul hb
  unfold nb at ha hb hp
  have e : mulV a b 30 = rndV (a * b) 30 := by
    unfold mulV rndS
    rw [if_neg (by decide), if_neg (by decide), sat_in (a := a) (by omega) (by omega), sat_in (a := b) (by omega) (by omega), show Int.toNat 30 = 30 from rfl]
    exact sat_in (by omega) (by omega)
  rw [e]; exact h
theorem addnb {a b : Int} (ha : nb a 4294967296) (hb : nb b 4294967296) : faddV [a, b] = a + b := by
  unfold nb at ha hb
  unfold faddV
  simp only [sumS]
  rw [sat_in (a := a) (by omega) (by omega), sat_in (a := b) (by omega) (by omega), sat_in (by omega) (by omega)]; omega

theorem z_bd {z x2 : Int} (hx0 : 0 ≤ x2) (hx1 : x2 ≤ 711180000000000000) (hz : nb (2 * (z * 1073741824 - x2)) 1073741824) : 0 ≤ z ∧ z ≤ 662338200 := by
  unfold nb at hz; omega
theorem step {z x2 s k w p : Int} (hx0 : 0 ≤ x2) (hx1 : x2 ≤ 711180000000000000) (hz : nb (2 * (z * 1073741824 - x2)) 1073741824) (hw : 0 < w) (hk : nb k 1073741824) (hs : nb s 1503238553) (he : nb (s * w - p) (4 * w)) :
    faddV [k, mulV z s 30] = k + mulV z s 30 ∧ nb (mulV z s 30) 927400000 ∧ nb ((k + mulV z s 30) * (w * 1152921504606846976) - (k * (w * 1152921504606846976) + x2 * p)) (4 * (w * 1152921504606846976)) := by
  obtain ⟨z0, z1⟩ := z_bd hx0 hx1 hz
  have zn : nb z 662338200 := ⟨by omega, z1⟩
  have hm := mul30 (zn.le (by omega)) (hs.le (by omega))
  have hzs := zn.mul hs
  generalize mulV z s 30 = m at *
  have mb : nb m 927400000 := by unfold nb at *; omega
  refine ⟨addnb (hk.le (by omega)) (mb.le (by omega)), mb, ?_⟩
  have xn : nb x2 711180000000000000 := ⟨by omega, hx1⟩
  have a1 := xn.mul he
  have a2 := hs.mul hz
  have a3 := (show nb 1073741824 1073741824 by unfold nb; omega).mul hm
  have a4 := (a2.add a3).lmul (show 0 ≤ w by omega)
  have e : 2 * ((k + m) * (w * 1152921504606846976) - (k * (w * 1152921504606846976) + x2 * p)) = 2 * (x2 * (s * w - p)) + w * (s * (2 * (z * 1073741824 - x2)) + 1073741824 * (2 * (m * 1073741824 - z * s))) := by grind
  unfold nb at a1 a4 ⊢
  generalize (k + m) * (w * 1152921504606846976) - (k * (w * 1152921504606846976) + x2 * p) = X at *
  generalize w * (s * (2 * (z * 1073741824 - x2)) + 1073741824 * (2 * (m * 1073741824 - z * s))) = Y at *
  generalize x2 * (s * w - p) = Z at *
  omega
theorem ser_err {z x2 : Int} (hx0 : 0 ≤ x2) (hx1 : x2 ≤ 711180000000000000) (hz : nb (2 * (z * 1073741824 - x2)) 1073741824) : ∀ (l : List Int) (s p w : Int), 0 < w → (∀ k ∈ l, nb k 536870912) → nb s 1503238553 → nb (s * w - p) (4 * w) →
    nb (serV z s l) 1503238553 ∧ nb (serV z s l * hW w l - hP x2 p w l) (4 * hW w l) ∧ 0 < hW w l
  | [], s, p, w, hw, _, hs, he => ⟨hs, he, hw⟩
  | k :: l, s, p, w, hw, hk, hs, he => by
    have hk0 := hk k (List.mem_cons_self ..)
    obtain ⟨e1, e2, e3⟩ := step hx0 hx1 hz hw (hk0.le (by omega)) hs he
    simp only [serV, hW, hP]
    rw [e1]
    refine ser_err hx0 hx1 hz l _ _ _ (by omega) (fun j hj => hk j (List.mem_cons_of_mem _ hj)) ?_ e3
    unfold nb at *; omega
theorem ser_app (z : Int) (k : Int) : ∀ (l : List Int) (s : Int), serV z s (l ++ [k]) = faddV [k, mulV z (serV z s l) 30]
  | [], s => rfl
  | j :: l, s => by simp only [List.cons_append, serV]; exact ser_app z k l _
theorem hP_app (x2 k : Int) : ∀ (l : List Int) (p w : Int), hP x2 p w (l ++ [k]) = k * (hW w l * 1152921504606846976) + x2 * hP x2 p w l
  | [], p, w => rfl
  | j :: l, p, w => by simp only [List.cons_append, hP, hW]; exact hP_app x2 k l _ _
theorem hW_app (k : Int) : ∀ (l : List Int) (w : Int), hW w (l ++ [k]) = hW w l * 1152921504606846976
  | [], w => rfl
  | j :: l, w => by simp only [List.cons_append, hW]; exact hW_app k l _
/-- A whole series: its last coefficient is one. -/
theorem ser_all {z x2 a : Int} {l : List Int} (hx0 : 0 ≤ x2) (hx1 : x2 ≤ 711180000000000000) (hz : nb (2 * (z * 1073741824 - x2)) 1073741824) (ha : nb a 536870912) (hk : ∀ k ∈ l, nb k 536870912) :
    nb (serV z a (l ++ [1073741824])) 2001141824 ∧ nb (serV z a (l ++ [1073741824]) * hW 1 (l ++ [1073741824]) - pv (hL [a] 1 (l ++ [1073741824])) x2) (4 * hW 1 (l ++ [1073741824])) ∧ 0 < hW 1 (l ++ [1073741824]) := by
  obtain ⟨b0, b1, b2⟩ := ser_err hx0 hx1 hz l a a 1 (by omega) hk (ha.le (by omega)) (by unfold nb; omega)
  obtain ⟨e1, e2, e3⟩ := step hx0 hx1 hz b2 (show nb 1073741824 1073741824 by unfold nb; omega) b0 b1
  have e := hP_ev x2 (l ++ [1073741824]) [a] 1
  rw [show pv [a] x2 = a by simp [pv]] at e
  rw [← e, ser_app, hP_app, hW_app, e1]
  exact ⟨by unfold nb at *; omega, e3, by omega⟩

theorem sqx_bd {x : Int} (hx : nb x 843314857) : 0 ≤ x * x ∧ x * x ≤ 711180000000000000 := by
  have h := (hx.mul hx).2
  refine ⟨?_, by omega⟩
  rcases Int.le_total 0 x with k | k
  · exact Int.mul_nonneg k k
  · exact Int.mul_nonneg_of_nonpos_of_nonpos k k
def R8 : Int := 843314857
theorem chk3 : leB (2 * pv (pabs (padd (psm MN (0 :: sprd (hL [-27] 1 sL1))) (psm (-(1073741824 ^ 12)) sinL))) 843314857) (MN * 1073741824 ^ 11) = true := by kernel_rfl
theorem chk4 : leB (2 * pv (pabs (padd (psm MN (sprd (hL [2] 1 sL2))) (psm (-(1073741824 ^ 13)) cosL))) 843314857) (MN * 1073741824 ^ 12) = true := by kernel_rfl
theorem s0_err {x : Int} (hx : nb x 843314857) : nb (2 * (MN * sinS0 x - 1073741824 * Sp x)) (9 * MN) := by
  obtain ⟨q0, q1⟩ := sqx_bd hx
  have hz := mul30 (hx.le (by omega)) (hx.le (by omega))
  unfold sinS0
  have hl : sL1 = [2959, -213044, 8947849, -178956971] ++ [1073741824] := rfl
  obtain ⟨a0, a1, -⟩ := ser_all (a := -27) (l := [2959, -213044, 8947849, -178956971]) q0 q1 hz (by unfold nb; omega) (by unfold nb; simp)
  rw [← hl] at a0 a1
  have c := (show nb (2 * pv (padd (psm MN (0 :: sprd (hL [-27] 1 sL1))) (psm (-(1073741824 ^ 12)) sinL)) x) (MN * 1073741824 ^ 11) from by
    have h := leB_le chk3
    have h2 := pv_abs hx.abs (padd (psm MN (0 :: sprd (hL [-27] 1 sL1))) (psm (-(1073741824 ^ 12)) sinL))
    unfold nb; omega)
  rw [pv_add, pv_sm, pv_sm] at c
  rw [show pv (0 :: sprd (hL [-27] 1 sL1)) x = x * pv (hL [-27] 1 sL1) (x * x) by simp only [pv, pv_sprd]; omega] at c
  generalize mulV x x 30 = z at *
  generalize serV z (-27) sL1 = S at *
  have hm := mul30 (hx.le (show (843314857 : Int) ≤ 4294967296 by omega)) (a0.le (show (2001141824 : Int) ≤ 4294967296 by omega))
  generalize mulV x S 30 = m at *
  generalize pv (hL [-27] 1 sL1) (x * x) = p at *
  rw [show hW 1 sL1 = 1073741824 ^ 10 by decide +kernel] at a1
  have hM := MN_pos
  change nb (2 * (MN * (x * p) + -1073741824 ^ 12 * Sp x)) (MN * 1073741824 ^ 11) at c
  generalize Sp x = sp at *
  generalize MN = M at *
  have b1 := (hx.mul a1).lmul (show 0 ≤ M by omega)
  have b2 := hm.lmul (show 0 ≤ M by omega)
  refine nb.cancel (m := 1073741824 ^ 11) (by decide) ?_
  have e : 1073741824 ^ 11 * (2 * (M * m - 1073741824 * sp)) = 2 * (M * (x * (S * 1073741824 ^ 10 - p))) + 1073741824 ^ 10 * (M * (2 * (m * 1073741824 - x * S))) + 2 * (M * (x * p) + -1073741824 ^ 12 * sp) := by grind
  rw [e]
  unfold nb at b1 b2 c ⊢
  generalize M * (x * (S * 1073741824 ^ 10 - p)) = A at *
  generalize M * (2 * (m * 1073741824 - x * S)) = B at *
  generalize 2 * (M * (x * p) + -1073741824 ^ 12 * sp) = D at *
  omega
theorem c0_err {x : Int} (hx : nb x 843314857) : nb (2 * (MN * serV (mulV x x 30) 2 sL2 - 1073741824 * Cp x)) (9 * MN) ∧ nb (serV (mulV x x 30) 2 sL2) 2001141824 := by
  obtain ⟨q0, q1⟩ := sqx_bd hx
  have hz := mul30 (hx.le (by omega)) (hx.le (by omega))
  have hl : sL2 = [-296, 26631, -1491308, 44739243, -536870912] ++ [1073741824] := rfl
  obtain ⟨a0, a1, -⟩ := ser_all (a := 2) (l := [-296, 26631, -1491308, 44739243, -536870912]) q0 q1 hz (by unfold nb; omega) (by unfold nb; simp)
  rw [← hl] at a0 a1
  have c := (show nb (2 * pv (padd (psm MN (sprd (hL [2] 1 sL2))) (psm (-(1073741824 ^ 13)) cosL)) x) (MN * 1073741824 ^ 12) from by
    have h := leB_le chk4
    have h2 := pv_abs hx.abs (padd (psm MN (sprd (hL [2] 1 sL2))) (psm (-(1073741824 ^ 13)) cosL))
    unfold nb; omega)
  rw [pv_add, pv_sm, pv_sm, pv_sprd] at c
  generalize mulV x x 30 = z at *
  refine ⟨?_, a0⟩
  generalize serV z 2 sL2 = S at *
  generalize pv (hL [2] 1 sL2) (x * x) = p at *
  rw [show hW 1 sL2 = 1073741824 ^ 12 by decide +kernel] at a1
  have hM := MN_pos
  change nb (2 * (MN * p + -1073741824 ^ 13 * Cp x)) (MN * 1073741824 ^ 12) at c
  generalize Cp x = cp at *
  generalize MN = M at *
  have b1 := a1.lmul (show 0 ≤ M by omega)
  refine nb.cancel (m := 1073741824 ^ 12) (by decide) ?_
  have e : 1073741824 ^ 12 * (2 * (M * S - 1073741824 * cp)) = 2 * (M * (S * 1073741824 ^ 12 - p)) + 2 * (M * p + -1073741824 ^ 13 * cp) := by grind
  rw [e]
  unfold nb at b1 c ⊢
  generalize M * (S * 1073741824 ^ 12 - p) = A at *
  generalize 2 * (M * p + -1073741824 ^ 13 * cp) = D at *
  omega
end Go.Proofs.Ytnabopepomjncaa

/- The program's sine as a function of the wrapped angle: its symmetries; how far off the reference's it is. Plain. -/
namespace Go.Proofs.Ytnabopepomjncaa
open Go.Lr Go.Tg
set_option linter.unusedVariables false
set_option linter.unusedSimpArgs false

theorem mm_def (s : Int) : mmV s = if s > 1073741824 then 1073741824 else if s < -1073741824 then -1073741824 else s := by
  unfold mmV; (repeat' split) <;> omega
theorem mm_bd (s : Int) : nb (mmV s) 1073741824 := by
  rw [mm_def]; unfold nb; (repeat' split) <;> omega
theorem mm_neg (s : Int) : mmV (-s) = -mmV s := by
  rw [mm_def, mm_def]; (repeat' split) <;> omega
theorem mm_err {s v M : Int} (hM : 0 < M) (h : nb (2 * (M * s - v)) (10 * M)) (hv : nb (2048 * v) (2199023255553 * M)) : nb (2 * (M * mmV s - v)) (10 * M) := by
  rw [mm_def]
  unfold nb at *
  split
  · rename_i g
    have := Int.mul_le_mul_of_nonneg_left (show (1073741824 : Int) ≤ s by omega) (show 0 ≤ M by omega)
    omega
  · split
    · rename_i g
      have := Int.mul_le_mul_of_nonneg_left (show s ≤ (-1073741824 : Int) by omega) (show 0 ≤ M by omega)
      omega
    · exact h
theorem Sp_v {x : Int} (hx : nb x 1700000000) : nb (2048 * (1073741824 * Sp x)) (2199023255553 * MN) := by
  have h := Sp_one hx
  rw [show 2048 * (1073741824 * Sp x) = 2199023255552 * Sp x by omega]; exact h
theorem fabs_sm {w : Int} (h : nb w 1152921504606846975) : fabsV w = if w < 0 then -w else w := by
  unfold nb at h; unfold fabsV; (repeat' split) <;> omega
theorem sinF_err {w : Int} (hw : nb w 1686629713) : nb (2 * (MN * sinF w - 1073741824 * Sp w)) (10 * MN) := by
  have hM := MN_pos
  have hx : nb w 1700000000 := hw.le (by omega)
  have hf := fabs_sm (hw.le (show (1686629713 : Int) ≤ 1152921504606846975 by omega))
  unfold sinF
  by_cases c : fabsV w ≤ 843314857
  · rw [decide_eq_true c, cond_true]
    refine mm_err hM ((s0_err ?_).le (by omega)) (Sp_v hx)
    rw [hf] at c; unfold nb; split at c <;> omega
  · rw [decide_eq_false c, cond_false]
    refine mm_err hM ?_ (Sp_v hx)
    rw [hf] at c
    unfold nb at hw
    by_cases n : w < 0
    · rw [if_pos n] at c
      have e : sinX w = 1686629713 - -w := by unfold sinX; rw [hf, if_pos n, wr_i, w64_in (by omega) (by omega)]
      rw [e, decide_eq_true n]
      have hy : nb (1686629713 - -w) 843314857 := by unfold nb; omega
      obtain ⟨c1, c2⟩ := c0_err hy
      obtain ⟨c3, -⟩ := co_eq (w := -w) (by unfold nb; omega)
      have e2 : sinG0 true (1686629713 - -w) = -serV (mulV (1686629713 - -w) (1686629713 - -w) 30) 2 sL2 := by
        show wr IntKind.i64 (0 - _) = _
        unfold nb at c2
        rw [wr_i, w64_in (by omega) (by omega)]; omega
      rw [e2]
      rw [Sp_neg] at c3
      generalize serV (mulV (1686629713 - -w) (1686629713 - -w) 30) 2 sL2 = s at *
      generalize Cp (1686629713 - -w) = cp at *
      generalize Sp w = sp at *
      rw [show MN * -s = -(MN * s) by grind]
      generalize MN * s = ms at *
      generalize MN = M at *
      unfold nb at *
      omega
    · rw [if_neg n] at c
      have e : sinX w = 1686629713 - w := by unfold sinX; rw [hf, if_neg n, wr_i, w64_in (by omega) (by omega)]
      rw [e, decide_eq_false n]
      have hy : nb (1686629713 - w) 843314857 := by unfold nb; omega
      obtain ⟨c1, c2⟩ := c0_err hy
      obtain ⟨c3, -⟩ := co_eq (w := w) (by unfold nb; omega)
      show nb (2 * (MN * serV (mulV (1686629713 - w) (1686629713 - w) 30) 2 sL2 - 1073741824 * Sp w)) (10 * MN)
      generalize serV (mulV (1686629713 - w) (1686629713 - w) 30) 2 sL2 = s at *
      generalize Cp (1686629713 - w) = cp at *
      generalize Sp w = sp at *
      generalize MN * s = ms at *
      generalize MN = M at *
      unfold nb at *
      omega
theorem mul_nn (a b s : Int) : mulV (-a) (-b) s = mulV a b s := by unfold mulV; rw [sat_odd, sat_odd, Int.neg_mul_neg]
theorem rndS_neg (w s : Int) : rndS (-w) s = -rndS w s := by
  unfold rndS
  (repeat' split) <;> first | omega | rw [rnd_odd, sat_odd]
theorem mul_neg1 (a b s : Int) : mulV (-a) b s = -mulV a b s := by unfold mulV; rw [sat_odd, Int.neg_mul, rndS_neg]
theorem sinF_neg {w : Int} (hw : nb w 1686629713) : sinF (-w) = -sinF w := by
  have hf := fabs_sm (hw.le (show (1686629713 : Int) ≤ 1152921504606846975 by omega))
  have hg := fabs_sm (hw.neg.le (show (1686629713 : Int) ≤ 1152921504606846975 by omega))
  have hfg : fabsV (-w) = fabsV w := by rw [hf, hg]; (repeat' split) <;> omega
  unfold sinF
  rw [hfg]
  by_cases c : fabsV w ≤ 843314857
  · rw [decide_eq_true c, cond_true, cond_true, ← mm_neg]
    unfold sinS0
    rw [mul_nn, mul_neg1]
  · rw [decide_eq_false c, cond_false, cond_false, ← mm_neg]
    have ex : sinX (-w) = sinX w := by unfold sinX; rw [hfg]
    rw [ex]
    have hb : nb (sinX w) 843314857 := by
      unfold sinX
      rw [hf] at c ⊢
      unfold nb at *
      split at c
      · rename_i n
        rw [if_pos n, wr_i, w64_in (by omega) (by omega)]; omega
      · rename_i n
        rw [if_neg n, wr_i, w64_in (by omega) (by omega)]; omega
    obtain ⟨-, c2⟩ := c0_err hb
    have key : sinG0 true (sinX w) = -sinG0 false (sinX w) := by
      show wr IntKind.i64 (0 - serV (mulV (sinX w) (sinX w) 30) 2 sL2) = -serV (mulV (sinX w) (sinX w) 30) 2 sL2
      unfold nb at c2
      rw [wr_i, w64_in (by omega) (by omega)]; omega
    rw [hf] at c
    by_cases n : w < 0
    · have n2 : ¬ -w < 0 := by omega
      rw [decide_eq_true n, decide_eq_false n2, key, Int.neg_neg]
    · have n2 : -w < 0 := by rw [if_neg n] at c; omega
      rw [decide_eq_false n, decide_eq_true n2, key]

/-- The angle, folded to the right half. -/
def foldV (w : Int) : Int := if w > 1686629713 then 3373259426 - w else if w < -1686629713 then -3373259426 - w else w
/-- The sine and the cosine, of any whole number. -/
def SG (a : Int) : Int := sinF (foldV (wrapV a))
def CG (a : Int) : Int := SG (1686629713 + a)
theorem fold_bd {w : Int} (h0 : -3373259426 < w) (h1 : w ≤ 3373259426) : nb (foldV w) 1686629713 := by
  unfold foldV nb; (repeat' split) <;> omega
theorem sinV_eq {a : Int} (h : nb a 1152921504606846976) : sinV a = SG a := by
  unfold nb at h
  have hs : satV a = a := sat_in (by omega) (by omega)
  obtain ⟨b0, b1, -⟩ := wrap_spec a
  unfold sinV SG
  congr 1
  unfold sinW foldV
  rw [hs]
  by_cases c : wrapV a > 1686629713
  · rw [decide_eq_true c, cond_true, if_pos c, wr_i, w64_in (by omega) (by omega)]
  · rw [decide_eq_false c, cond_false, if_neg c]
    by_cases d : wrapV a < -1686629713
    · rw [decide_eq_true d, cond_true, if_pos d, wr_i, w64_in (by omega) (by omega)]
    · rw [decide_eq_false d, cond_false, if_neg d]
theorem SG_per (a k : Int) : SG (a + k * 6746518852) = SG a := by
  obtain ⟨b0, b1, j, hj⟩ := wrap_spec a
  unfold SG
  rw [wrap_unique (a := a + k * 6746518852) (w := wrapV a) (k := j + k) (by omega) b0 b1]
theorem SG_wrap (a : Int) : SG (wrapV a) = SG a := by unfold SG; rw [wrap_wrap]
theorem cosV_eq (a : Int) : cosV a = CG a := by
  obtain ⟨b0, b1, j, hj⟩ := wrap_spec a
  unfold cosV CG
  have e : wr IntKind.i64 (1686629713 + wrapV a) = 1686629713 + wrapV a := w64_in (by omega) (by omega)
  rw [e, sinV_eq (by unfold nb; omega), ← SG_per (1686629713 + wrapV a) j]
  congr 1; omega
theorem sinF_0 : sinF 0 = 0 := by
  have h := sinF_neg (w := 0) (by unfold nb; omega)
  rw [Int.neg_zero] at h; omega
theorem fold_neg (w : Int) : foldV (-w) = -foldV w := by unfold foldV; (repeat' split) <;> omega
theorem SG_neg (a : Int) : SG (-a) = -SG a := by
  obtain ⟨b0, b1, j, hj⟩ := wrap_spec a
  unfold SG
  by_cases h : wrapV a = 3373259426
  · rw [wrap_unique (a := -a) (w := 3373259426) (k := -j - 1) (by omega) (by omega) (by omega), h, show foldV 3373259426 = 0 by decide, sinF_0]; rfl
  · rw [wrap_unique (a := -a) (w := -wrapV a) (k := -j) (by omega) (by omega) (by omega), fold_neg, sinF_neg (fold_bd b0 b1)]
theorem SG_half (a : Int) : SG (3373259426 - a) = SG a := by
  obtain ⟨b0, b1, j, hj⟩ := wrap_spec a
  unfold SG
  by_cases h : 0 ≤ wrapV a
  · rw [wrap_unique (a := 3373259426 - a) (w := 3373259426 - wrapV a) (k := -j) (by omega) (by omega) (by omega)]
    congr 1
    unfold foldV; (repeat' split) <;> omega
  · rw [wrap_unique (a := 3373259426 - a) (w := -3373259426 - wrapV a) (k := -j + 1) (by omega) (by omega) (by omega)]
    congr 1
    unfold foldV; (repeat' split) <;> omega
theorem SG_bd (a : Int) : nb (SG a) 1073741824 := by
  unfold SG sinF
  cases decide (fabsV (foldV (wrapV a)) ≤ 843314857)
  · exact mm_bd _
  · exact mm_bd _
theorem CG_bd (a : Int) : nb (CG a) 1073741824 := SG_bd _
/-- A quarter turn more. -/
theorem SG_q (a : Int) : SG (a + 1686629713) = CG a := by unfold CG; rw [Int.add_comm]
theorem CG_q (a : Int) : CG (a + 1686629713) = -SG a := by
  unfold CG
  rw [← SG_half, ← SG_neg]
  congr 1; omega
theorem CG_neg (a : Int) : CG (-a) = CG a := by
  unfold CG
  rw [← SG_half]
  congr 1; omega
theorem CG_co (a : Int) : CG (1686629713 - a) = SG a := by
  unfold CG
  rw [← SG_half a]
  congr 1; omega
theorem SG_co (a : Int) : SG (1686629713 - a) = CG a := by
  unfold CG
  rw [← SG_half (1686629713 - a)]
  congr 1; omega
theorem CG_half (a : Int) : CG (3373259426 - a) = -CG a := by
  unfold CG
  rw [← SG_neg]
  rw [← SG_per (1686629713 + (3373259426 - a)) (-1)]
  congr 1; omega
/-- Against the reference's. -/
theorem SG_err {w : Int} (hw : nb w 1686629713) : nb (2 * (MN * SG w - 1073741824 * Sp w)) (10 * MN) := by
  unfold nb at hw
  have e : SG w = sinF w := by
    unfold SG
    rw [wrap_unique (a := w) (w := w) (k := 0) (by omega) (by omega) (by omega)]
    congr 1
    unfold foldV; (repeat' split) <;> omega
  rw [e]; exact sinF_err hw
theorem CG_err {w : Int} (hw : nb w 1686629713) : nb (2 * (MN * CG w - 1073741824 * Cp w)) (11 * MN) := by
  have hM := MN_pos
  have key : ∀ v : Int, 0 ≤ v → v ≤ 1686629713 → nb (2 * (MN * CG v - 1073741824 * Cp v)) (11 * MN) := by
    intro v v0 v1
    have h := SG_err (w := 1686629713 - v) (by unfold nb; omega)
    rw [SG_co] at h
    obtain ⟨-, c⟩ := co_eq (w := v) (by unfold nb; omega)
    generalize MN * CG v = x at *
    generalize Sp (1686629713 - v) = y at *
    generalize Cp v = z at *
    generalize MN = M at *
    unfold nb at *
    omega
  unfold nb at hw
  rcases Int.le_total 0 w with h | h
  · exact key w h (by omega)
  · have := key (-w) (by omega) (by omega)
    rw [CG_neg, Cp_neg] at this
    exact this
end Go.Proofs.Ytnabopepomjncaa

/- The sine and the cosine of a sum of angles (within 28), and on the circle. Plain. -/
namespace Go.Proofs.Ytnabopepomjncaa
open Go.Lr Go.Tg
set_option linter.unusedVariables false
set_option linter.unusedSimpArgs false

/-- Two products of numbers, each near its reference. -/
theorem prod_err {M a b c d x y z w : Int} (hM : 0 < M) (ha : nb a 1073741824) (hb : nb b 1073741824) (hc : nb c 1073741824) (hd : nb d 1073741824)
    (ea : nb (2 * (M * a - 1073741824 * x)) (11 * M)) (eb : nb (2 * (M * b - 1073741824 * y)) (11 * M)) (ec : nb (2 * (M * c - 1073741824 * z)) (11 * M)) (ed : nb (2 * (M * d - 1073741824 * w)) (11 * M)) :
    nb (4 * (M * M * (a * b + c * d) - 1152921504606846976 * (x * y + z * w))) (M * M * 94489281000) := by
  have p1 := (((hb.mul ea).add (ha.mul eb)).add ((hd.mul ec).add (hc.mul ed))).lmul (show 0 ≤ M by omega)
  have p2 := (ea.mul eb).add (ec.mul ed)
  have e : 4 * (M * M * (a * b + c * d) - 1152921504606846976 * (x * y + z * w)) = 2 * (M * (b * (2 * (M * a - 1073741824 * x)) + a * (2 * (M * b - 1073741824 * y)) + (d * (2 * (M * c - 1073741824 * z)) + c * (2 * (M * d - 1073741824 * w)))))
      - (2 * (M * a - 1073741824 * x) * (2 * (M * b - 1073741824 * y)) + 2 * (M * c - 1073741824 * z) * (2 * (M * d - 1073741824 * w))) := by grind
  rw [e]
  have e1 : M * (1073741824 * (11 * M) + 1073741824 * (11 * M) + (1073741824 * (11 * M) + 1073741824 * (11 * M))) = 47244640256 * (M * M) := by grind
  have e2 : 11 * M * (11 * M) + 11 * M * (11 * M) = 242 * (M * M) := by grind
  rw [e1] at p1
  rw [e2] at p2
  have hMM : 0 ≤ M * M := Int.mul_nonneg (by omega) (by omega)
  have e3 : M * M * 94489281000 = 94489281000 * (M * M) := by grind
  rw [e3]
  unfold nb at p1 p2 ⊢
  generalize M * (b * (2 * (M * a - 1073741824 * x)) + a * (2 * (M * b - 1073741824 * y)) + (d * (2 * (M * c - 1073741824 * z)) + c * (2 * (M * d - 1073741824 * w)))) = A at *
  generalize 2 * (M * a - 1073741824 * x) * (2 * (M * b - 1073741824 * y)) + 2 * (M * c - 1073741824 * z) * (2 * (M * d - 1073741824 * w)) = B at *
  generalize M * M = MM at *
  omega
/-- From the reference's sum to the program's. -/
theorem sum_err {M X v r q : Int} (hM : 0 < M) (h1 : nb (4 * (M * M * X - 1152921504606846976 * q)) (M * M * 94489281000)) (h2 : nb (1099511627776 * (q - M * r)) (M * M)) (h3 : nb (2 * (M * v - 1073741824 * r)) (11 * M)) :
    nb (X - 1073741824 * v) 30064771072 := by
  refine nb.cancel (m := M * M) (Int.mul_pos hM hM) ?_
  have p3 := h3.lmul (show 0 ≤ M by omega)
  have e : M * M * (X - 1073741824 * v) = (M * M * X - 1152921504606846976 * q) + 1152921504606846976 * (q - M * r) - 1073741824 * (M * (M * v - 1073741824 * r)) := by grind
  have e1 : M * (2 * (M * v - 1073741824 * r)) = 2 * (M * (M * v - 1073741824 * r)) := by grind
  have e2 : M * (11 * M) = 11 * (M * M) := by grind
  rw [e1, e2] at p3
  rw [e]
  have hMM : 0 ≤ M * M := Int.mul_nonneg (by omega) (by omega)
  unfold nb at *
  generalize M * M * X - 1152921504606846976 * q = A at *
  generalize M * (M * v - 1073741824 * r) = B at *
  generalize q - M * r = D at *
  generalize M * M = MM at *
  omega
/-- The angles' sum. -/
def SumQ (a b : Int) : Prop := nb (CG a * CG b - SG a * SG b - 1073741824 * CG (a + b)) 30064771072 ∧ nb (SG a * CG b + CG a * SG b - 1073741824 * SG (a + b)) 30064771072
theorem sum_base {a b : Int} (ha : nb a 843314856) (hb : nb b 843314856) : SumQ a b := by
  have hM := MN_pos
  have hs : nb (a + b) 1686629713 := (ha.add hb).le (by omega)
  have a1 := CG_err (ha.le (show (843314856 : Int) ≤ 1686629713 by omega))
  have a2 := (SG_err (ha.le (show (843314856 : Int) ≤ 1686629713 by omega))).le (show 10 * MN ≤ 11 * MN by omega)
  have b1 := CG_err (hb.le (show (843314856 : Int) ≤ 1686629713 by omega))
  have b2 := (SG_err (hb.le (show (843314856 : Int) ≤ 1686629713 by omega))).le (show 10 * MN ≤ 11 * MN by omega)
  have s1 := CG_err hs
  have s2 := (SG_err hs).le (show 10 * MN ≤ 11 * MN by omega)
  have c := add_c (ha.le (show (843314856 : Int) ≤ 1700000000 by omega)) (hb.le (show (843314856 : Int) ≤ 1700000000 by omega))
  have s := add_s (ha.le (show (843314856 : Int) ≤ 1700000000 by omega)) (hb.le (show (843314856 : Int) ≤ 1700000000 by omega))
  have neg : ∀ {u v : Int}, nb (2 * (MN * u - 1073741824 * v)) (11 * MN) → nb (2 * (MN * -u - 1073741824 * -v)) (11 * MN) := by
    intro u v h
    have e : 2 * (MN * -u - 1073741824 * -v) = -(2 * (MN * u - 1073741824 * v)) := by grind
    rw [e]; exact h.neg
  constructor
  · have p := prod_err hM (CG_bd a) (CG_bd b) (SG_bd a).neg (SG_bd b) a1 b1 (neg a2) b2
    have q := sum_err (v := CG (a + b)) (r := Cp (a + b)) hM p (by rw [Int.neg_mul]; exact c) s1
    rw [Int.neg_mul] at q
    exact q
  · have p := prod_err hM (SG_bd a) (CG_bd b) (CG_bd a) (SG_bd b) a2 b1 a1 b2
    exact sum_err hM p s s2
theorem sum_up {a b : Int} : SumQ (a + 1686629713) b ↔ SumQ a b := by
  unfold SumQ
  rw [show a + 1686629713 + b = a + b + 1686629713 by omega, CG_q, CG_q, SG_q, SG_q, Int.neg_mul, Int.neg_mul]
  generalize CG a * CG b = x
  generalize SG a * SG b = y
  generalize SG a * CG b = z
  generalize CG a * SG b = t
  unfold nb
  omega
theorem sum_comm {a b : Int} (h : SumQ a b) : SumQ b a := by
  unfold SumQ at *
  rw [Int.add_comm b a, Int.mul_comm (CG b), Int.mul_comm (SG b), Int.mul_comm (SG b), Int.mul_comm (CG b), Int.add_comm (CG a * SG b)]
  exact h
theorem sum_nat {a b : Int} : ∀ n : Nat, SumQ (a + n * 1686629713) b ↔ SumQ a b
  | 0 => by rw [show a + ((0 : Nat) : Int) * 1686629713 = a by omega]
  | n + 1 => by
    rw [show a + ((n + 1 : Nat) : Int) * 1686629713 = a + (n : Int) * 1686629713 + 1686629713 by omega, sum_up]
    exact sum_nat n
theorem sum_int {a b : Int} (k : Int) : SumQ (a + k * 1686629713) b ↔ SumQ a b := by
  rcases Int.le_total 0 k with h | h
  · have := sum_nat (a := a) (b := b) k.toNat
    rw [show ((k.toNat : Nat) : Int) = k by omega] at this
    exact this
  · have := sum_nat (a := a + k * 1686629713) (b := b) (-k).toNat
    rw [show a + k * 1686629713 + (((-k).toNat : Nat) : Int) * 1686629713 = a by
      rw [show (((-k).toNat : Nat) : Int) = -k by omega]; omega] at this
    exact this.symm
theorem to_base (a : Int) : ∃ x k, a = x + k * 1686629713 ∧ nb x 843314856 := by
  refine ⟨a - (a + 843314856) / 1686629713 * 1686629713, (a + 843314856) / 1686629713, by omega, ?_⟩
  unfold nb; omega
/-- The sum of any two angles. -/
theorem sum_all (a b : Int) : SumQ a b := by
  obtain ⟨x, k, rfl, hx⟩ := to_base a
  obtain ⟨y, l, rfl, hy⟩ := to_base b
  exact (sum_int k).2 (sum_comm ((sum_int l).2 (sum_comm (sum_base hx hy))))
theorem CG_0 : CG 0 = 1073741824 := by decide +kernel
theorem SG_0 : SG 0 = 0 := by decide +kernel
/-- On the circle. -/
theorem on_circle (a : Int) : nb (CG a * CG a + SG a * SG a - 1152921504606846976) 30064771072 := by
  have h := (sum_all a (-a)).1
  rw [CG_neg, SG_neg, show a + -a = 0 by omega, CG_0, Int.mul_neg] at h
  generalize CG a * CG a = x at *
  generalize SG a * SG a = y at *
  unfold nb at *
  omega
/-- The difference of two angles. -/
theorem dif_all (a b : Int) : nb (CG a * CG b + SG a * SG b - 1073741824 * CG (a - b)) 30064771072 ∧ nb (SG a * CG b - CG a * SG b - 1073741824 * SG (a - b)) 30064771072 := by
  have h := sum_all a (-b)
  unfold SumQ at h
  rw [CG_neg, SG_neg, show a + -b = a - b by omega, Int.mul_neg, Int.mul_neg] at h
  generalize CG a * CG b = x at *
  generalize SG a * SG b = y at *
  generalize SG a * CG b = z at *
  generalize CG a * SG b = t at *
  unfold nb at *
  omega
end Go.Proofs.Ytnabopepomjncaa
