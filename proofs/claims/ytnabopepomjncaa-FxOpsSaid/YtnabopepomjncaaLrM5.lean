/- Joined texts. What each part proves stands ahead of it; no condition. -/
import Derived.Test.YtnabopepomjncaaLrM4

/- Numbers of 256 bits (astrolaberef1): made, Small, Clamp, Sat. -/
namespace Go.Proofs.Ytnabopepomjncaa
open Go.Lr Go.Dg
set_option linter.unusedVariables false
set_option linter.unusedSimpArgs false

abbrev Bg (n : Bool) (l : List Int) : LV := .v (.agg (At.bool n :: l.map (At.int .u64)))
def bv (n : Bool) (l : List Int) : Int := bif n then -(fromD l) else fromD l
def bigL (v : Int) : LV := Bg (decide (v < 0)) (dig 8 (absV v))
abbrev P256 : Int := 115792089237316195423570985008687907853269984665640564039457584007913129639936
theorem pw8 : pw 8 = P256 := by decide
theorem bv_big {v : Int} (h : absV v < P256) : bv (decide (v < 0)) (dig 8 (absV v)) = v := by
  unfold bv
  rw [fromD_dig 8 (absV_nn v) (by rw [pw8]; exact h)]
  by_cases q : v < 0
  · rw [decide_eq_true q]; unfold absV; rw [if_pos q]; simp
  · rw [decide_eq_false q]; unfold absV; rw [if_neg q]; rfl
theorem zB_big (v : Int) (h : absV v < P256) : zB (dig 8 (absV v)) = decide (v = 0) := by
  rw [Bool.eq_iff_iff, zB_iff (dig_isD 8 _), fromD_dig 8 (absV_nn v) (by rw [pw8]; exact h), decide_eq_true_eq]
  unfold absV
  split <;> omega
/-- A number by its sign and size. -/
theorem made_big {n : Bool} {l : List Int} (h : isD l) (e : l.length = 8) : Bg (n && !zB l) l = bigL (bv n l) := by
  have hb := fromD_bd h
  have hz := zB_iff h
  have hd := dig_fromD h
  rw [e] at hd
  have ha : absV (bv n l) = fromD l := by
    unfold bv; cases n
    · exact absV_pos hb.1
    · unfold absV; simp only [cond_true]; split <;> omega
  have hs : decide (bv n l < 0) = (n && !zB l) := by
    unfold bv; cases n
    · simp only [cond_false, Bool.false_and, decide_eq_false_iff_not]; omega
    · simp only [cond_true, Bool.true_and]
      by_cases q : fromD l = 0
      · rw [hz.2 q]; simp only [Bool.not_true, decide_eq_false_iff_not]; omega
      · have : zB l = false := by
          cases g : zB l
          · rfl
          · exact absurd (hz.1 g) q
        rw [this]; simp only [Bool.not_false, decide_eq_true_eq]; omega
  unfold bigL
  rw [ha, hs, hd]
theorem absV_bv {n : Bool} {l : List Int} (h : isD l) : absV (bv n l) = fromD l := by
  have hb := fromD_bd h
  unfold bv; cases n
  · exact absV_pos hb.1
  · unfold absV; simp only [cond_true]; split <;> omega
theorem Made8R1 (n : Bool) (a0 a1 a2 a3 a4 a5 a6 a7 : Int) : (runF Try.prog S62 Zl 2000 120 [.v (.one (.bool n)), .v (.agg [.int .u64 a0, .int .u64 a1, .int .u64 a2, .int .u64 a3, .int .u64 a4, .int .u64 a5, .int .u64 a6, .int .u64 a7])] [] 0 [some true, some true, some true, some true]).map (fun r => (r.1, r.2.2.2)) = some (LV.v (V1.agg [At.bool !zB [a0, a1, a2, a3, a4, a5, a6, a7], At.int IntKind.u64 a0, At.int IntKind.u64 a1, At.int IntKind.u64 a2, At.int IntKind.u64 a3, At.int IntKind.u64 a4, At.int IntKind.u64 a5, At.int IntKind.u64 a6, At.int IntKind.u64 a7]), [(n, true), (n, true), (n, true), (n, true)]) := by kernel_rfl
theorem Made8R2 (n : Bool) (a0 a1 a2 a3 a4 a5 a6 a7 : Int) : (runF Try.prog S62 Zl 2000 120 [.v (.one (.bool n)), .v (.agg [.int .u64 a0, .int .u64 a1, .int .u64 a2, .int .u64 a3, .int .u64 a4, .int .u64 a5, .int .u64 a6, .int .u64 a7])] [] 0 [some false, some false, some false, some false]).map (fun r => (r.1, r.2.2.2)) = some (LV.v (V1.agg [At.bool false, At.int IntKind.u64 a0, At.int IntKind.u64 a1, At.int IntKind.u64 a2, At.int IntKind.u64 a3, At.int IntKind.u64 a4, At.int IntKind.u64 a5, At.int IntKind.u64 a6, At.int IntKind.u64 a7]), [(n, false), (n, false), (n, false), (n, false)]) := by kernel_rfl
def Made8T (n : Bool) (a0 a1 a2 a3 a4 a5 a6 a7 : Int) : Option (LV × List (Bool × Bool)) := 
  bif (n) then some (LV.v (V1.agg [At.bool !zB [a0, a1, a2, a3, a4, a5, a6, a7], At.int IntKind.u64 a0, At.int IntKind.u64 a1, At.int IntKind.u64 a2, At.int IntKind.u64 a3, At.int IntKind.u64 a4, At.int IntKind.u64 a5, At.int IntKind.u64 a6, At.int IntKind.u64 a7]), [])
  else some (LV.v (V1.agg [At.bool false, At.int IntKind.u64 a0, At.int IntKind.u64 a1, At.int IntKind.u64 a2, At.int IntKind.u64 a3, At.int IntKind.u64 a4, At.int IntKind.u64 a5, At.int IntKind.u64 a6, At.int IntKind.u64 a7]), [])
def Made8F : List LV → Option (LV × List (Bool × Bool))
  | [.v (.one (.bool n)), .v (.agg [.int .u64 a0, .int .u64 a1, .int .u64 a2, .int .u64 a3, .int .u64 a4, .int .u64 a5, .int .u64 a6, .int .u64 a7])] => Made8T n a0 a1 a2 a3 a4 a5 a6 a7
  | _ => none
theorem sumMade8 : SumOK Try.prog 120 (pureSum Made8F) := by
  refine pureSum_run (z := Zl) sound62 (own_of sound62 Try.func120 (by kernel_rfl)) fun args v cs hF hc => ?_
  unfold Made8F at hF
  split at hF
  · rename_i n a0 a1 a2 a3 a4 a5 a6 a7
    unfold Made8T at hF
    rcases bool_cases (n) with h0 | h0
    · rw [cond_t h0] at hF
      cases hF
      exact ⟨2000, [some true, some true, some true, some true], _, Made8R1 n a0 a1 a2 a3 a4 a5 a6 a7, ae_cons (h0) (ae_cons (h0) (ae_cons (h0) (ae_cons (h0) (ae_nil))))⟩
    · rw [cond_f h0] at hF
      cases hF
      exact ⟨2000, [some false, some false, some false, some false], _, Made8R2 n a0 a1 a2 a3 a4 a5 a6 a7, ae_cons (h0) (ae_cons (h0) (ae_cons (h0) (ae_cons (h0) (ae_nil))))⟩
  · cases hF

theorem Clamp8R1 (a b c : Int) (hb : Bool) (ty : TypeId) : (runF Try.prog S62 Zl 2000 17 [A0, I a, I b, I c] [(0, flag ty hb)] 1 [some true, some true, some true, some true, none, some true, some true, some true, some true, none, none, none, none]).map acc3 = some (LV.v (V1.one (At.int IntKind.i64 b)), some { ty := ty, fr := (0, 0), es := 0, cells := [At.bool true] }, [(hb, true), (hb, true), (hb, true), (hb, true), (decide (a < b), true), (decide (a < b), true), (decide (a < b), true), (decide (a < b), true)]) := by kernel_rfl
theorem Clamp8R2 (a b c : Int) (hb : Bool) (ty : TypeId) : (runF Try.prog S62 Zl 2000 17 [A0, I a, I b, I c] [(0, flag ty hb)] 1 [some true, some true, some true, some true, none, some false, some false, some false, some false, some true, some true, some true, some true]).map acc3 = some (LV.v (V1.one (At.int IntKind.i64 b)), some { ty := ty, fr := (0, 0), es := 0, cells := [At.bool true] }, [(b != a, true), (b != a, true), (b != a, true), (b != a, true), (hb, false), (hb, false), (hb, false), (hb, false), (decide (a < b), true), (decide (a < b), true), (decide (a < b), true), (decide (a < b), true)]) := by kernel_rfl
theorem Clamp8R3 (a b c : Int) (hb : Bool) (ty : TypeId) : (runF Try.prog S62 Zl 2000 17 [A0, I a, I b, I c] [(0, flag ty hb)] 1 [some true, some true, some true, some true, none, some false, some false, some false, some false, some false, some false, some false, some false]).map acc3 = some (LV.v (V1.one (At.int IntKind.i64 b)), some { ty := ty, fr := (0, 0), es := 0, cells := [At.bool (decide (b > c))] }, [(b != a, false), (b != a, false), (b != a, false), (b != a, false), (hb, false), (hb, false), (hb, false), (hb, false), (decide (a < b), true), (decide (a < b), true), (decide (a < b), true), (decide (a < b), true)]) := by kernel_rfl
theorem Clamp8R4 (a b c : Int) (hb : Bool) (ty : TypeId) : (runF Try.prog S62 Zl 2000 17 [A0, I a, I b, I c] [(0, flag ty hb)] 1 [some false, some false, some false, some false, some true, some true, some true, some true, some true, none, none, none, none]).map acc3 = some (LV.v (V1.one (At.int IntKind.i64 b)), some { ty := ty, fr := (0, 0), es := 0, cells := [At.bool true] }, [(hb, true), (hb, true), (hb, true), (hb, true), (decide (b > c), true), (decide (a < b), false), (decide (a < b), false), (decide (a < b), false), (decide (a < b), false)]) := by kernel_rfl
theorem Clamp8R5 (a b c : Int) (hb : Bool) (ty : TypeId) : (runF Try.prog S62 Zl 2000 17 [A0, I a, I b, I c] [(0, flag ty hb)] 1 [some false, some false, some false, some false, some true, some false, some false, some false, some false, some true, some true, some true, some true]).map acc3 = some (LV.v (V1.one (At.int IntKind.i64 b)), some { ty := ty, fr := (0, 0), es := 0, cells := [At.bool true] }, [(b != a, true), (b != a, true), (b != a, true), (b != a, true), (hb, false), (hb, false), (hb, false), (hb, false), (decide (b > c), true), (decide (a < b), false), (decide (a < b), false), (decide (a < b), false), (decide (a < b), false)]) := by kernel_rfl
theorem Clamp8R6 (a b c : Int) (hb : Bool) (ty : TypeId) : (runF Try.prog S62 Zl 2000 17 [A0, I a, I b, I c] [(0, flag ty hb)] 1 [some false, some false, some false, some false, some true, some false, some false, some false, some false, some false, some false, some false, some false]).map acc3 = some (LV.v (V1.one (At.int IntKind.i64 b)), some { ty := ty, fr := (0, 0), es := 0, cells := [At.bool (decide (b > c))] }, [(b != a, false), (b != a, false), (b != a, false), (b != a, false), (hb, false), (hb, false), (hb, false), (hb, false), (decide (b > c), true), (decide (a < b), false), (decide (a < b), false), (decide (a < b), false), (decide (a < b), false)]) := by kernel_rfl
theorem Clamp8R7 (a b c : Int) (hb : Bool) (ty : TypeId) : (runF Try.prog S62 Zl 2000 17 [A0, I a, I b, I c] [(0, flag ty hb)] 1 [some false, some false, some false, some false, some false, some true, some true, some true, some true, some true, none, none, none, none]).map acc3 = some (LV.v (V1.one (At.int IntKind.i64 c)), some { ty := ty, fr := (0, 0), es := 0, cells := [At.bool true] }, [(hb, true), (hb, true), (hb, true), (hb, true), (decide (a > c), true), (decide (b > c), false), (decide (a < b), false), (decide (a < b), false), (decide (a < b), false), (decide (a < b), false)]) := by kernel_rfl
theorem Clamp8R8 (a b c : Int) (hb : Bool) (ty : TypeId) : (runF Try.prog S62 Zl 2000 17 [A0, I a, I b, I c] [(0, flag ty hb)] 1 [some false, some false, some false, some false, some false, some true, some false, some false, some false, some false, some true, some true, some true, some true]).map acc3 = some (LV.v (V1.one (At.int IntKind.i64 c)), some { ty := ty, fr := (0, 0), es := 0, cells := [At.bool true] }, [(c != a, true), (c != a, true), (c != a, true), (c != a, true), (hb, false), (hb, false), (hb, false), (hb, false), (decide (a > c), true), (decide (b > c), false), (decide (a < b), false), (decide (a < b), false), (decide (a < b), false), (decide (a < b), false)]) := by kernel_rfl
theorem Clamp8R9 (a b c : Int) (hb : Bool) (ty : TypeId) : (runF Try.prog S62 Zl 2000 17 [A0, I a, I b, I c] [(0, flag ty hb)] 1 [some false, some false, some false, some false, some false, some true, some false, some false, some false, some false, some false, some false, some false, some false]).map acc3 = some (LV.v (V1.one (At.int IntKind.i64 c)), some { ty := ty, fr := (0, 0), es := 0, cells := [At.bool (decide (b > c))] }, [(c != a, false), (c != a, false), (c != a, false), (c != a, false), (hb, false), (hb, false), (hb, false), (hb, false), (decide (a > c), true), (decide (b > c), false), (decide (a < b), false), (decide (a < b), false), (decide (a < b), false), (decide (a < b), false)]) := by kernel_rfl
theorem Clamp8R10 (a b c : Int) (hb : Bool) (ty : TypeId) : (runF Try.prog S62 Zl 2000 17 [A0, I a, I b, I c] [(0, flag ty hb)] 1 [some false, some false, some false, some false, some false, some false, some true, some true, some true, some true, none, none, none, none]).map acc3 = some (LV.v (V1.one (At.int IntKind.i64 a)), some { ty := ty, fr := (0, 0), es := 0, cells := [At.bool true] }, [(hb, true), (hb, true), (hb, true), (hb, true), (decide (a > c), false), (decide (b > c), false), (decide (a < b), false), (decide (a < b), false), (decide (a < b), false), (decide (a < b), false)]) := by kernel_rfl
theorem Clamp8R11 (a b c : Int) (hb : Bool) (ty : TypeId) : (runF Try.prog S62 Zl 2000 17 [A0, I a, I b, I c] [(0, flag ty hb)] 1 [some false, some false, some false, some false, some false, some false, some false, some false, some false, some false, some true, some true, some true, some true]).map acc3 = some (LV.v (V1.one (At.int IntKind.i64 a)), some { ty := ty, fr := (0, 0), es := 0, cells := [At.bool true] }, [(a != a, true), (a != a, true), (a != a, true), (a != a, true), (hb, false), (hb, false), (hb, false), (hb, false), (decide (a > c), false), (decide (b > c), false), (decide (a < b), false), (decide (a < b), false), (decide (a < b), false), (decide (a < b), false)]) := by kernel_rfl
theorem Clamp8R12 (a b c : Int) (hb : Bool) (ty : TypeId) : (runF Try.prog S62 Zl 2000 17 [A0, I a, I b, I c] [(0, flag ty hb)] 1 [some false, some false, some false, some false, some false, some false, some false, some false, some false, some false, some false, some false, some false, some false]).map acc3 = some (LV.v (V1.one (At.int IntKind.i64 a)), some { ty := ty, fr := (0, 0), es := 0, cells := [At.bool (decide (b > c))] }, [(a != a, false), (a != a, false), (a != a, false), (a != a, false), (hb, false), (hb, false), (hb, false), (hb, false), (decide (a > c), false), (decide (b > c), false), (decide (a < b), false), (decide (a < b), false), (decide (a < b), false), (decide (a < b), false)]) := by kernel_rfl
def Clamp8T (a b c : Int) (hb : Bool) : Option (LV × Bool × List (Bool × Bool)) := 
  bif (decide (a < b)) then 
    bif (hb) then some (LV.v (V1.one (At.int IntKind.i64 b)), (true), [])
    else 
      bif (b != a) then some (LV.v (V1.one (At.int IntKind.i64 b)), (true), [])
      else some (LV.v (V1.one (At.int IntKind.i64 b)), (decide (b > c)), [])
  else 
    bif (decide (b > c)) then 
      bif (hb) then some (LV.v (V1.one (At.int IntKind.i64 b)), (true), [])
      else 
        bif (b != a) then some (LV.v (V1.one (At.int IntKind.i64 b)), (true), [])
        else some (LV.v (V1.one (At.int IntKind.i64 b)), (decide (b > c)), [])
    else 
      bif (decide (a > c)) then 
        bif (hb) then some (LV.v (V1.one (At.int IntKind.i64 c)), (true), [])
        else 
          bif (c != a) then some (LV.v (V1.one (At.int IntKind.i64 c)), (true), [])
          else some (LV.v (V1.one (At.int IntKind.i64 c)), (decide (b > c)), [])
      else 
        bif (hb) then some (LV.v (V1.one (At.int IntKind.i64 a)), (true), [])
        else 
          bif (a != a) then some (LV.v (V1.one (At.int IntKind.i64 a)), (true), [])
          else some (LV.v (V1.one (At.int IntKind.i64 a)), (decide (b > c)), [])
def Clamp8F : List LV → Bool → Option (LV × Bool × List (Bool × Bool))
  | [.v (.one (.int .i64 a)), .v (.one (.int .i64 b)), .v (.one (.int .i64 c))], hb => Clamp8T a b c hb
  | _, _ => none
theorem sumClamp8 (ty : TypeId) : SumOK Try.prog 17 (accSum ty Clamp8F) := by
  refine accSum_run (z := Zl) sound62 (own_of sound62 Try.func17 (by kernel_rfl)) fun args hb v h' cs hF hc => ?_
  unfold Clamp8F at hF
  split at hF
  · rename_i a b c
    unfold Clamp8T at hF
    rcases bool_cases (decide (a < b)) with h0 | h0
    · rw [cond_t h0] at hF
      rcases bool_cases (hb) with h1 | h1
      · rw [cond_t h1] at hF
        cases hF
        exact ⟨rfl, 2000, [some true, some true, some true, some true, none, some true, some true, some true, some true, none, none, none, none], _, Clamp8R1 a b c hb ty, ae_cons (h1) (ae_cons (h1) (ae_cons (h1) (ae_cons (h1) (ae_cons (h0) (ae_cons (h0) (ae_cons (h0) (ae_cons (h0) (ae_nil))))))))⟩
      · rw [cond_f h1] at hF
        rcases bool_cases (b != a) with h2 | h2
        · rw [cond_t h2] at hF
          cases hF
          exact ⟨rfl, 2000, [some true, some true, some true, some true, none, some false, some false, some false, some false, some true, some true, some true, some true], _, Clamp8R2 a b c hb ty, ae_cons (h2) (ae_cons (h2) (ae_cons (h2) (ae_cons (h2) (ae_cons (h1) (ae_cons (h1) (ae_cons (h1) (ae_cons (h1) (ae_cons (h0) (ae_cons (h0) (ae_cons (h0) (ae_cons (h0) (ae_nil))))))))))))⟩
        · rw [cond_f h2] at hF
          cases hF
          exact ⟨rfl, 2000, [some true, some true, some true, some true, none, some false, some false, some false, some false, some false, some false, some false, some false], _, Clamp8R3 a b c hb ty, ae_cons (h2) (ae_cons (h2) (ae_cons (h2) (ae_cons (h2) (ae_cons (h1) (ae_cons (h1) (ae_cons (h1) (ae_cons (h1) (ae_cons (h0) (ae_cons (h0) (ae_cons (h0) (ae_cons (h0) (ae_nil))))))))))))⟩
    · rw [cond_f h0] at hF
      rcases bool_cases (decide (b > c)) with h1 | h1
      · rw [cond_t h1] at hF
        rcases bool_cases (hb) with h2 | h2
        · rw [cond_t h2] at hF
          cases hF
          exact ⟨rfl, 2000, [some false, some false, some false, some false, some true, some true, some true, some true, some true, none, none, none, none], _, Clamp8R4 a b c hb ty, ae_cons (h2) (ae_cons (h2) (ae_cons (h2) (ae_cons (h2) (ae_cons (h1) (ae_cons (h0) (ae_cons (h0) (ae_cons (h0) (ae_cons (h0) (ae_nil)))))))))⟩
        · rw [cond_f h2] at hF
          rcases bool_cases (b != a) with h3 | h3
          · rw [cond_t h3] at hF
            cases hF
            exact ⟨rfl, 2000, [some false, some false, some false, some false, some true, some false, some false, some false, some false, some true, some true, some true, some true], _, Clamp8R5 a b c hb ty, ae_cons (h3) (ae_cons (h3) (ae_cons (h3) (ae_cons (h3) (ae_cons (h2) (ae_cons (h2) (ae_cons (h2) (ae_cons (h2) (ae_cons (h1) (ae_cons (h0) (ae_cons (h0) (ae_cons (h0) (ae_cons (h0) (ae_nil)))))))))))))⟩
          · rw [cond_f h3] at hF
            cases hF
            exact ⟨rfl, 2000, [some false, some false, some false, some false, some true, some false, some false, some false, some false, some false, some false, some false, some false], _, Clamp8R6 a b c hb ty, ae_cons (h3) (ae_cons (h3) (ae_cons (h3) (ae_cons (h3) (ae_cons (h2) (ae_cons (h2) (ae_cons (h2) (ae_cons (h2) (ae_cons (h1) (ae_cons (h0) (ae_cons (h0) (ae_cons (h0) (ae_cons (h0) (ae_nil)))))))))))))⟩
      · rw [cond_f h1] at hF
        rcases bool_cases (decide (a > c)) with h2 | h2
        · rw [cond_t h2] at hF
          rcases bool_cases (hb) with h3 | h3
          · rw [cond_t h3] at hF
            cases hF
            exact ⟨rfl, 2000, [some false, some false, some false, some false, some false, some true, some true, some true, some true, some true, none, none, none, none], _, Clamp8R7 a b c hb ty, ae_cons (h3) (ae_cons (h3) (ae_cons (h3) (ae_cons (h3) (ae_cons (h2) (ae_cons (h1) (ae_cons (h0) (ae_cons (h0) (ae_cons (h0) (ae_cons (h0) (ae_nil))))))))))⟩
          · rw [cond_f h3] at hF
            rcases bool_cases (c != a) with h4 | h4
            · rw [cond_t h4] at hF
              cases hF
              exact ⟨rfl, 2000, [some false, some false, some false, some false, some false, some true, some false, some false, some false, some false, some true, some true, some true, some true], _, Clamp8R8 a b c hb ty, ae_cons (h4) (ae_cons (h4) (ae_cons (h4) (ae_cons (h4) (ae_cons (h3) (ae_cons (h3) (ae_cons (h3) (ae_cons (h3) (ae_cons (h2) (ae_cons (h1) (ae_cons (h0) (ae_cons (h0) (ae_cons (h0) (ae_cons (h0) (ae_nil))))))))))))))⟩
            · rw [cond_f h4] at hF
              cases hF
              exact ⟨rfl, 2000, [some false, some false, some false, some false, some false, some true, some false, some false, some false, some false, some false, some false, some false, some false], _, Clamp8R9 a b c hb ty, ae_cons (h4) (ae_cons (h4) (ae_cons (h4) (ae_cons (h4) (ae_cons (h3) (ae_cons (h3) (ae_cons (h3) (ae_cons (h3) (ae_cons (h2) (ae_cons (h1) (ae_cons (h0) (ae_cons (h0) (ae_cons (h0) (ae_cons (h0) (ae_nil))))))))))))))⟩
        · rw [cond_f h2] at hF
          rcases bool_cases (hb) with h3 | h3
          · rw [cond_t h3] at hF
            cases hF
            exact ⟨rfl, 2000, [some false, some false, some false, some false, some false, some false, some true, some true, some true, some true, none, none, none, none], _, Clamp8R10 a b c hb ty, ae_cons (h3) (ae_cons (h3) (ae_cons (h3) (ae_cons (h3) (ae_cons (h2) (ae_cons (h1) (ae_cons (h0) (ae_cons (h0) (ae_cons (h0) (ae_cons (h0) (ae_nil))))))))))⟩
          · rw [cond_f h3] at hF
            rcases bool_cases (a != a) with h4 | h4
            · rw [cond_t h4] at hF
              cases hF
              exact ⟨rfl, 2000, [some false, some false, some false, some false, some false, some false, some false, some false, some false, some false, some true, some true, some true, some true], _, Clamp8R11 a b c hb ty, ae_cons (h4) (ae_cons (h4) (ae_cons (h4) (ae_cons (h4) (ae_cons (h3) (ae_cons (h3) (ae_cons (h3) (ae_cons (h3) (ae_cons (h2) (ae_cons (h1) (ae_cons (h0) (ae_cons (h0) (ae_cons (h0) (ae_cons (h0) (ae_nil))))))))))))))⟩
            · rw [cond_f h4] at hF
              cases hF
              exact ⟨rfl, 2000, [some false, some false, some false, some false, some false, some false, some false, some false, some false, some false, some false, some false, some false, some false], _, Clamp8R12 a b c hb ty, ae_cons (h4) (ae_cons (h4) (ae_cons (h4) (ae_cons (h4) (ae_cons (h3) (ae_cons (h3) (ae_cons (h3) (ae_cons (h3) (ae_cons (h2) (ae_cons (h1) (ae_cons (h0) (ae_cons (h0) (ae_cons (h0) (ae_cons (h0) (ae_nil))))))))))))))⟩
  · cases hF

theorem Small8R1 (n : Bool) (a0 a1 a2 a3 a4 a5 a6 a7 : Int) : (runF Try.prog S62 Zl 2000 119 [.v (.agg [.bool n, .int .u64 a0, .int .u64 a1, .int .u64 a2, .int .u64 a3, .int .u64 a4, .int .u64 a5, .int .u64 a6, .int .u64 a7])] [] 0 [some true]).map (fun r => (r.1, r.2.2.2)) = some (LV.v (V1.one (At.int IntKind.i64 (wr IntKind.i64 (wr IntKind.i64 (0 - wr IntKind.i64 (wr IntKind.u64 (Int.ofNat ((u64 (wr IntKind.u64 (a1 * pow2 (min (Int.toNat 32) IntKind.u64.bits)))).toNat.lor (u64 a0).toNat) - 1))) - 1)))), [(n, true)]) := by kernel_rfl
theorem Small8R2 (n : Bool) (a0 a1 a2 a3 a4 a5 a6 a7 : Int) : (runF Try.prog S62 Zl 2000 119 [.v (.agg [.bool n, .int .u64 a0, .int .u64 a1, .int .u64 a2, .int .u64 a3, .int .u64 a4, .int .u64 a5, .int .u64 a6, .int .u64 a7])] [] 0 [some false]).map (fun r => (r.1, r.2.2.2)) = some (LV.v (V1.one (At.int IntKind.i64 (wr IntKind.i64 (Int.ofNat ((u64 (wr IntKind.u64 (a1 * pow2 (min (Int.toNat 32) IntKind.u64.bits)))).toNat.lor (u64 a0).toNat))))), [(n, false)]) := by kernel_rfl
def Small8T (n : Bool) (a0 a1 a2 a3 a4 a5 a6 a7 : Int) : Option (LV × List (Bool × Bool)) := 
  bif (n) then some (LV.v (V1.one (At.int IntKind.i64 (wr IntKind.i64 (wr IntKind.i64 (0 - wr IntKind.i64 (wr IntKind.u64 (Int.ofNat ((u64 (wr IntKind.u64 (a1 * pow2 (min (Int.toNat 32) IntKind.u64.bits)))).toNat.lor (u64 a0).toNat) - 1))) - 1)))), [])
  else some (LV.v (V1.one (At.int IntKind.i64 (wr IntKind.i64 (Int.ofNat ((u64 (wr IntKind.u64 (a1 * pow2 (min (Int.toNat 32) IntKind.u64.bits)))).toNat.lor (u64 a0).toNat))))), [])
def Small8F : List LV → Option (LV × List (Bool × Bool))
  | [.v (.agg [.bool n, .int .u64 a0, .int .u64 a1, .int .u64 a2, .int .u64 a3, .int .u64 a4, .int .u64 a5, .int .u64 a6, .int .u64 a7])] => Small8T n a0 a1 a2 a3 a4 a5 a6 a7
  | _ => none
theorem sumSmall8 : SumOK Try.prog 119 (pureSum Small8F) := by
  refine pureSum_run (z := Zl) sound62 (own_of sound62 Try.func119 (by kernel_rfl)) fun args v cs hF hc => ?_
  unfold Small8F at hF
  split at hF
  · rename_i n a0 a1 a2 a3 a4 a5 a6 a7
    unfold Small8T at hF
    rcases bool_cases (n) with h0 | h0
    · rw [cond_t h0] at hF
      cases hF
      exact ⟨2000, [some true], _, Small8R1 n a0 a1 a2 a3 a4 a5 a6 a7, ae_cons (h0) (ae_nil)⟩
    · rw [cond_f h0] at hF
      cases hF
      exact ⟨2000, [some false], _, Small8R2 n a0 a1 a2 a3 a4 a5 a6 a7, ae_cons (h0) (ae_nil)⟩
  · cases hF


def made8S : List LV → Option (LV × List (Bool × Bool))
  | [.v (.one (.bool n)), .v (.agg [.int .u64 a0, .int .u64 a1, .int .u64 a2, .int .u64 a3, .int .u64 a4, .int .u64 a5, .int .u64 a6, .int .u64 a7])] => some (Bg (n && !zB [a0, a1, a2, a3, a4, a5, a6, a7]) [a0, a1, a2, a3, a4, a5, a6, a7], [])
  | _ => none
theorem sumMade1 : SumOK Try.prog 120 (pureSum made8S) := by
  refine sumMade8.pure_re fun args v cs hF hc => ?_
  unfold made8S at hF
  split at hF
  · rename_i n a0 a1 a2 a3 a4 a5 a6 a7
    cases hF
    show ∃ cs', Made8T n a0 a1 a2 a3 a4 a5 a6 a7 = _ ∧ _
    unfold Made8T
    cases n <;> exact ⟨_, rfl, ae_nil⟩
  · cases hF
def clamp8S : List LV → Bool → Option (LV × Bool × List (Bool × Bool))
  | [.v (.one (.int .i64 a)), .v (.one (.int .i64 b)), .v (.one (.int .i64 c))], hb => some (I (clampV a b c), hb || clampH a b c, [])
  | _, _ => none
theorem sumClamp1 (ty : TypeId) : SumOK Try.prog 17 (accSum ty clamp8S) := by
  refine (sumClamp8 ty).acc_re fun args hb v h' cs hF hc => ?_
  unfold clamp8S at hF
  split at hF
  · rename_i a b c
    cases hF
    show ∃ cs', Clamp8T a b c hb = _ ∧ _
    unfold Clamp8T clampV clampH
    by_cases h1 : a < b
    · rw [cond_t (decide_eq_true h1)]
      have h2 : (b != a) = true := by rw [bne_iff_ne]; omega
      rw [cond_t h2]
      refine ⟨[], ?_, ae_nil⟩
      cases hb <;> simp [h1, I]
    · rw [cond_f (decide_eq_false h1)]
      by_cases h2 : b > c
      · rw [cond_t (decide_eq_true h2)]
        refine ⟨[], ?_, ae_nil⟩
        by_cases h3 : (b != a) = true
        · rw [cond_t h3]; cases hb <;> simp [h2, I]
        · have h4 : (b != a) = false := by simpa using h3
          rw [cond_f h4]; cases hb <;> simp [h2, I]
      · rw [cond_f (decide_eq_false h2)]
        by_cases h3 : a > c
        · rw [cond_t (decide_eq_true h3)]
          have h4 : (c != a) = true := by rw [bne_iff_ne]; omega
          rw [cond_t h4]
          refine ⟨[], ?_, ae_nil⟩
          cases hb <;> simp [h1, h2, h3, I]
        · rw [cond_f (decide_eq_false h3)]
          have h4 : (a != a) = false := by simp
          rw [cond_f h4]
          refine ⟨[], ?_, ae_nil⟩
          cases hb <;> simp [h1, h2, h3, I]
  · cases hF
theorem lor32 {a b : Int} (ha : 0 ≤ a ∧ a < 4294967296) (hb : 0 ≤ b ∧ b < 4294967296) : Int.ofNat ((u64 (wr IntKind.u64 (b * pow2 (min (Int.toNat 32) IntKind.u64.bits)))).toNat.lor (u64 a).toNat) = b * 4294967296 + a := by
  rw [p32, wu]
  have e1 : (u64 ((b * 4294967296) % 18446744073709551616)).toNat = 2 ^ 32 * b.toNat := by
    unfold u64; omega
  have e2 : (u64 a).toNat = a.toNat := by unfold u64; omega
  rw [e1, e2]
  have := Nat.two_pow_add_eq_or_of_lt (i := 32) (b := a.toNat) (by omega) b.toNat
  show ((2 ^ 32 * b.toNat ||| a.toNat : Nat) : Int) = _
  rw [← this]
  omega
def small8S : List LV → Option (LV × List (Bool × Bool))
  | [.v (.agg [.bool n, .int .u64 a0, .int .u64 a1, .int .u64 a2, .int .u64 a3, .int .u64 a4, .int .u64 a5, .int .u64 a6, .int .u64 a7])] => some (I (bv n [a0, a1, a2, a3, a4, a5, a6, a7]), [(isDB [a0, a1, a2, a3, a4, a5, a6, a7] && decide (fromD [a0, a1, a2, a3, a4, a5, a6, a7] ≤ 9223372036854775807), true)])
  | _ => none
theorem sumSmall1 : SumOK Try.prog 119 (pureSum small8S) := by
  refine sumSmall8.pure_re fun args v cs hF hc => ?_
  unfold small8S at hF
  split at hF
  · rename_i n a0 a1 a2 a3 a4 a5 a6 a7
    cases hF
    show ∃ cs', Small8T n a0 a1 a2 a3 a4 a5 a6 a7 = _ ∧ _
    have hd := hc _ (List.mem_singleton.2 rfl)
    simp only [Bool.and_eq_true, isDB_iff, decide_eq_true_eq] at hd
    obtain ⟨⟨x0, x1, hh⟩, hle⟩ := hd
    have hb := fromD_bd (l := [a2, a3, a4, a5, a6, a7]) hh
    have e : fromD [a0, a1, a2, a3, a4, a5, a6, a7] = a0 + 4294967296 * (a1 + 4294967296 * fromD [a2, a3, a4, a5, a6, a7]) := rfl
    rw [e] at hle
    have ez : fromD [a2, a3, a4, a5, a6, a7] = 0 := by omega
    rw [ez] at e hle
    unfold Small8T
    rw [lor32 x0 x1]
    have w : ∀ n : Int, wr IntKind.i64 n = w64 n := fun _ => rfl
    cases n
    · refine ⟨[], ?_, ae_nil⟩
      rw [cond_false]
      have : wr IntKind.i64 (a1 * 4294967296 + a0) = bv false [a0, a1, a2, a3, a4, a5, a6, a7] := by
        rw [w, w64_in (by omega) (by omega)]; unfold bv; rw [cond_false, e]; omega
      rw [this]; rfl
    · refine ⟨[], ?_, ae_nil⟩
      rw [cond_true]
      have : wr IntKind.i64 (wr IntKind.i64 (0 - wr IntKind.i64 (wr IntKind.u64 (a1 * 4294967296 + a0 - 1))) - 1) = bv true [a0, a1, a2, a3, a4, a5, a6, a7] := by
        unfold bv; rw [cond_true, e, wu, w, w, w]; unfold w64; omega
      rw [this]; rfl
  · cases hF
theorem s8sat (a : Int) (hb : Bool) : (runF Try.prog (more S62 17 (accSum 37 clamp8S)) Zl 2000 18 [A0, I a] [(0, flag 37 hb)] 1 []).map acc3 = some (I (satV a), some (flag 37 (hb || satH a)), []) := by kernel_rfl
theorem sumSat1 : SumOK Try.prog 18 (accSum 37 satF) := by
  have snd := sound62.more (sumClamp1 37)
  refine accSum_run (z := Zl) snd (own_of snd Try.func18 (by kernel_rfl)) fun args hb v h' cs hF _ => ?_
  unfold satF at hF
  split at hF
  · rename_i a
    cases hF
    exact ⟨rfl, 2000, [], _, s8sat a hb, ae_nil⟩
  · cases hF
noncomputable def S63 : FuncId → Option SumK := more (more (more (more S62 120 (pureSum made8S)) 119 (pureSum small8S)) 17 (accSum 37 clamp8S)) 18 (accSum 37 satF)
theorem sound63 : Sound Try.prog S63 := (((sound62.more sumMade1).more sumSmall1).more (sumClamp1 _)).more sumSat1
end Go.Proofs.Ytnabopepomjncaa

/- Numbers of 256 bits (astrolaberef1): Of, Neg, Add, Mul. -/
namespace Go.Proofs.Ytnabopepomjncaa
open Go.Lr Go.Dg
set_option linter.unusedVariables false
set_option linter.unusedSimpArgs false

theorem bvdig (n : Bool) {x : Int} (h0 : 0 ≤ x) (h1 : x < P256) : bv n (dig 8 x) = bif n then -x else x := by
  unfold bv; rw [fromD_dig 8 h0 (by rw [pw8]; exact h1)]
theorem dmade (n : Bool) (x : Int) : Bg (n && !zB (dig 8 x)) (dig 8 x) = bigL (bv n (dig 8 x)) := made_big (dig_isD 8 x) (dig_len 8 x)
theorem ok_big (v : Int) : (bigL v).ok noP = true := rfl
theorem b3o (a : Int) : (runF Try.prog S63 Zl 2000 59 [I a] [] 0 []).map (fun r => (r.1, r.2.2.2)) = some (Bg (decide (a < 0) && !zB [lowR (absV a), absV a / pow2 (min (Int.toNat 32) IntKind.u64.bits), 0, 0, 0, 0, 0, 0]) [lowR (absV a), absV a / pow2 (min (Int.toNat 32) IntKind.u64.bits), 0, 0, 0, 0, 0, 0], [(i64B a, true)]) := by kernel_rfl
def of8S : List LV → Option (LV × List (Bool × Bool))
  | [.v (.one (.int .i64 a))] => some (bigL a, [(i64B a, true)])
  | _ => none
theorem sumOf1 : SumOK Try.prog 59 (pureSum of8S) := by
  refine pureSum_run (z := Zl) sound63 (own_of sound63 Try.func59 (by kernel_rfl)) fun args v cs hF hc => ?_
  unfold of8S at hF
  split at hF
  · rename_i a
    cases hF
    have hd := hc _ (List.mem_singleton.2 rfl)
    have r := b3o a
    simp only [i64B, Bool.and_eq_true, decide_eq_true_eq] at hd
    have h0 := absV_nn a
    have h1 : absV a ≤ 9223372036854775808 := by unfold absV; split <;> omega
    rw [p32, lowR, land32 _ h0 (by omega)] at r
    have e : [absV a % 4294967296, absV a / 4294967296, 0, 0, 0, 0, 0, 0] = dig 8 (absV a) := by
      simp only [dig]
      rw [show absV a / 4294967296 % 4294967296 = absV a / 4294967296 by omega, show absV a / 4294967296 / 4294967296 = 0 by omega]
      rfl
    rw [e, dmade, bvdig _ h0 (by unfold P256; omega)] at r
    have e2 : (bif decide (a < 0) then -absV a else absV a) = a := by
      by_cases q : a < 0
      · rw [decide_eq_true q, cond_true]; unfold absV; rw [if_pos q]; omega
      · rw [decide_eq_false q, cond_false]; unfold absV; rw [if_neg q]
    rw [e2] at r
    exact ⟨2000, _, _, r, hc⟩
  · cases hF
theorem b3n (n : Bool) (a0 a1 a2 a3 a4 a5 a6 a7 : Int) : (runF Try.prog S63 Zl 2000 60 [.v (.agg [.bool n, .int .u64 a0, .int .u64 a1, .int .u64 a2, .int .u64 a3, .int .u64 a4, .int .u64 a5, .int .u64 a6, .int .u64 a7])] [] 0 []).map (fun r => (r.1, r.2.2.2)) = some (Bg (!n && !zB [a0, a1, a2, a3, a4, a5, a6, a7]) [a0, a1, a2, a3, a4, a5, a6, a7], []) := by kernel_rfl
def neg8S : List LV → Option (LV × List (Bool × Bool))
  | [.v (.agg [.bool n, .int .u64 a0, .int .u64 a1, .int .u64 a2, .int .u64 a3, .int .u64 a4, .int .u64 a5, .int .u64 a6, .int .u64 a7])] => some (bigL (-bv n [a0, a1, a2, a3, a4, a5, a6, a7]), [(isDB [a0, a1, a2, a3, a4, a5, a6, a7], true)])
  | _ => none
theorem sumNeg1 : SumOK Try.prog 60 (pureSum neg8S) := by
  refine pureSum_run (z := Zl) sound63 (own_of sound63 Try.func60 (by kernel_rfl)) fun args v cs hF hc => ?_
  unfold neg8S at hF
  split at hF
  · rename_i n a0 a1 a2 a3 a4 a5 a6 a7
    cases hF
    have hd := hc _ (List.mem_singleton.2 rfl)
    rw [isDB_iff] at hd
    have r := b3n n a0 a1 a2 a3 a4 a5 a6 a7
    rw [made_big hd rfl] at r
    have e : bv (!n) [a0, a1, a2, a3, a4, a5, a6, a7] = -bv n [a0, a1, a2, a3, a4, a5, a6, a7] := by cases n <;> simp [bv]
    rw [e] at r
    exact ⟨2000, _, _, r, ae_nil⟩
  · cases hF
theorem b3a1 (n m : Bool) (a0 a1 a2 a3 a4 a5 a6 a7 b0 b1 b2 b3 b4 b5 b6 b7 : Int) : (runF Try.prog S63 Zl 2000 58 [.v (.agg [.bool n, .int .u64 a0, .int .u64 a1, .int .u64 a2, .int .u64 a3, .int .u64 a4, .int .u64 a5, .int .u64 a6, .int .u64 a7]), .v (.agg [.bool m, .int .u64 b0, .int .u64 b1, .int .u64 b2, .int .u64 b3, .int .u64 b4, .int .u64 b5, .int .u64 b6, .int .u64 b7])] [] 0 [some true]).map (fun r => (r.1, r.2.2.2)) = some (Bg (n && !zB (dig 8 (fromD [a0, a1, a2, a3, a4, a5, a6, a7] + fromD [b0, b1, b2, b3, b4, b5, b6, b7]))) (dig 8 (fromD [a0, a1, a2, a3, a4, a5, a6, a7] + fromD [b0, b1, b2, b3, b4, b5, b6, b7])), [(isDB [a0, a1, a2, a3, a4, a5, a6, a7] && isDB [b0, b1, b2, b3, b4, b5, b6, b7], true), (n == m, true)]) := by kernel_rfl
theorem b3a2 (n m : Bool) (a0 a1 a2 a3 a4 a5 a6 a7 b0 b1 b2 b3 b4 b5 b6 b7 : Int) : (runF Try.prog S63 Zl 2000 58 [.v (.agg [.bool n, .int .u64 a0, .int .u64 a1, .int .u64 a2, .int .u64 a3, .int .u64 a4, .int .u64 a5, .int .u64 a6, .int .u64 a7]), .v (.agg [.bool m, .int .u64 b0, .int .u64 b1, .int .u64 b2, .int .u64 b3, .int .u64 b4, .int .u64 b5, .int .u64 b6, .int .u64 b7])] [] 0 [some false, some true]).map (fun r => (r.1, r.2.2.2)) = some (Bg (m && !zB (dig 8 (fromD [b0, b1, b2, b3, b4, b5, b6, b7] - fromD [a0, a1, a2, a3, a4, a5, a6, a7]))) (dig 8 (fromD [b0, b1, b2, b3, b4, b5, b6, b7] - fromD [a0, a1, a2, a3, a4, a5, a6, a7])), [(isDB [b0, b1, b2, b3, b4, b5, b6, b7] && isDB [a0, a1, a2, a3, a4, a5, a6, a7], true), (decide (fromD [a0, a1, a2, a3, a4, a5, a6, a7] < fromD [b0, b1, b2, b3, b4, b5, b6, b7]), true), (isDB [a0, a1, a2, a3, a4, a5, a6, a7] && isDB [b0, b1, b2, b3, b4, b5, b6, b7], true), (n == m, false)]) := by kernel_rfl
theorem b3a3 (n m : Bool) (a0 a1 a2 a3 a4 a5 a6 a7 b0 b1 b2 b3 b4 b5 b6 b7 : Int) : (runF Try.prog S63 Zl 2000 58 [.v (.agg [.bool n, .int .u64 a0, .int .u64 a1, .int .u64 a2, .int .u64 a3, .int .u64 a4, .int .u64 a5, .int .u64 a6, .int .u64 a7]), .v (.agg [.bool m, .int .u64 b0, .int .u64 b1, .int .u64 b2, .int .u64 b3, .int .u64 b4, .int .u64 b5, .int .u64 b6, .int .u64 b7])] [] 0 [some false, some false]).map (fun r => (r.1, r.2.2.2)) = some (Bg (n && !zB (dig 8 (fromD [a0, a1, a2, a3, a4, a5, a6, a7] - fromD [b0, b1, b2, b3, b4, b5, b6, b7]))) (dig 8 (fromD [a0, a1, a2, a3, a4, a5, a6, a7] - fromD [b0, b1, b2, b3, b4, b5, b6, b7])), [(isDB [a0, a1, a2, a3, a4, a5, a6, a7] && isDB [b0, b1, b2, b3, b4, b5, b6, b7], true), (decide (fromD [a0, a1, a2, a3, a4, a5, a6, a7] < fromD [b0, b1, b2, b3, b4, b5, b6, b7]), false), (isDB [a0, a1, a2, a3, a4, a5, a6, a7] && isDB [b0, b1, b2, b3, b4, b5, b6, b7], true), (n == m, false)]) := by kernel_rfl
def add8S : List LV → Option (LV × List (Bool × Bool))
  | [.v (.agg [.bool n, .int .u64 a0, .int .u64 a1, .int .u64 a2, .int .u64 a3, .int .u64 a4, .int .u64 a5, .int .u64 a6, .int .u64 a7]), .v (.agg [.bool m, .int .u64 b0, .int .u64 b1, .int .u64 b2, .int .u64 b3, .int .u64 b4, .int .u64 b5, .int .u64 b6, .int .u64 b7])] => some (bigL (bv n [a0, a1, a2, a3, a4, a5, a6, a7] + bv m [b0, b1, b2, b3, b4, b5, b6, b7]), [(isDB [a0, a1, a2, a3, a4, a5, a6, a7] && (isDB [b0, b1, b2, b3, b4, b5, b6, b7] && decide (fromD [a0, a1, a2, a3, a4, a5, a6, a7] + fromD [b0, b1, b2, b3, b4, b5, b6, b7] < P256)), true)])
  | _ => none
theorem sumAddB : SumOK Try.prog 58 (pureSum add8S) := by
  refine pureSum_run (z := Zl) sound63 (own_of sound63 Try.func58 (by kernel_rfl)) fun args v cs hF hc => ?_
  unfold add8S at hF
  split at hF
  · rename_i n a0 a1 a2 a3 a4 a5 a6 a7 m b0 b1 b2 b3 b4 b5 b6 b7
    cases hF
    have hd := hc _ (List.mem_singleton.2 rfl)
    simp only [Bool.and_eq_true, decide_eq_true_eq] at hd
    obtain ⟨ha, hb, hlt⟩ := hd
    have hab : (isDB [a0, a1, a2, a3, a4, a5, a6, a7] && isDB [b0, b1, b2, b3, b4, b5, b6, b7]) = true := by rw [ha, hb]; rfl
    have hba : (isDB [b0, b1, b2, b3, b4, b5, b6, b7] && isDB [a0, a1, a2, a3, a4, a5, a6, a7]) = true := by rw [ha, hb]; rfl
    have h1 := fromD_bd (isDB_iff.1 ha)
    have h2 := fromD_bd (isDB_iff.1 hb)
    rcases bool_cases (n == m) with h | h
    · have r := b3a1 n m a0 a1 a2 a3 a4 a5 a6 a7 b0 b1 b2 b3 b4 b5 b6 b7
      rw [dmade, bvdig _ (by omega) hlt] at r
      have e : (bif n then -(fromD [a0, a1, a2, a3, a4, a5, a6, a7] + fromD [b0, b1, b2, b3, b4, b5, b6, b7]) else fromD [a0, a1, a2, a3, a4, a5, a6, a7] + fromD [b0, b1, b2, b3, b4, b5, b6, b7]) = bv n [a0, a1, a2, a3, a4, a5, a6, a7] + bv m [b0, b1, b2, b3, b4, b5, b6, b7] := by
        have := eq_of_beq h
        subst this
        cases n <;> simp only [bv, cond_true, cond_false] <;> omega
      rw [e] at r
      exact ⟨2000, _, _, r, ae_cons hab (ae_cons h ae_nil)⟩
    · have hm : m = !n := by cases n <;> cases m <;> first | rfl | cases h
      rcases bool_cases (decide (fromD [a0, a1, a2, a3, a4, a5, a6, a7] < fromD [b0, b1, b2, b3, b4, b5, b6, b7])) with g | g
      · have g' := of_decide_eq_true g
        have r := b3a2 n m a0 a1 a2 a3 a4 a5 a6 a7 b0 b1 b2 b3 b4 b5 b6 b7
        rw [dmade, bvdig _ (by omega) (by omega)] at r
        have e : (bif m then -(fromD [b0, b1, b2, b3, b4, b5, b6, b7] - fromD [a0, a1, a2, a3, a4, a5, a6, a7]) else fromD [b0, b1, b2, b3, b4, b5, b6, b7] - fromD [a0, a1, a2, a3, a4, a5, a6, a7]) = bv n [a0, a1, a2, a3, a4, a5, a6, a7] + bv m [b0, b1, b2, b3, b4, b5, b6, b7] := by
          subst hm
          cases n <;> simp only [bv, cond_true, cond_false, Bool.not_true, Bool.not_false] <;> omega
        rw [e] at r
        exact ⟨2000, _, _, r, ae_cons hba (ae_cons g (ae_cons hab (ae_cons h ae_nil)))⟩
      · have g' := of_decide_eq_false g
        have r := b3a3 n m a0 a1 a2 a3 a4 a5 a6 a7 b0 b1 b2 b3 b4 b5 b6 b7
        rw [dmade, bvdig _ (by omega) (by omega)] at r
        have e : (bif n then -(fromD [a0, a1, a2, a3, a4, a5, a6, a7] - fromD [b0, b1, b2, b3, b4, b5, b6, b7]) else fromD [a0, a1, a2, a3, a4, a5, a6, a7] - fromD [b0, b1, b2, b3, b4, b5, b6, b7]) = bv n [a0, a1, a2, a3, a4, a5, a6, a7] + bv m [b0, b1, b2, b3, b4, b5, b6, b7] := by
          subst hm
          cases n <;> simp only [bv, cond_true, cond_false, Bool.not_true, Bool.not_false] <;> omega
        rw [e] at r
        exact ⟨2000, _, _, r, ae_cons hab (ae_cons g (ae_cons hab (ae_cons h ae_nil)))⟩
  · cases hF
/-- Products, xs the code reckons them. -/
abbrev cellR (c p a b : Int) : Int := wr IntKind.u64 (wr IntKind.u64 (c + p) + wr IntKind.u64 (a * b))
def rowR : Int → Int → List Int → List Int → List Int
  | c, a, p :: ps, b :: bs => lowR (cellR c p a b) :: rowR (cellR c p a b / pow2 (min (Int.toNat 32) IntKind.u64.bits)) a ps bs
  | _, _, _, _ => []
def mulR : List Int → List Int → List Int → List Int
  | a :: xs, ps, bs => match rowR 0 a ps bs with
    | r :: rs => r :: mulR xs rs bs
    | [] => []
  | [], ps, _ => ps
theorem b3m (n m : Bool) (a0 a1 a2 a3 a4 a5 a6 a7 b0 b1 b2 b3 b4 b5 b6 b7 : Int) : (runF Try.prog S63 Zl 4000 62 [.v (.agg [.bool n, .int .u64 a0, .int .u64 a1, .int .u64 a2, .int .u64 a3, .int .u64 a4, .int .u64 a5, .int .u64 a6, .int .u64 a7]), .v (.agg [.bool m, .int .u64 b0, .int .u64 b1, .int .u64 b2, .int .u64 b3, .int .u64 b4, .int .u64 b5, .int .u64 b6, .int .u64 b7])] [] 0 []).map (fun r => (r.1, r.2.2.2)) = some (Bg (n != m && !zB (mulR [a0, a1, a2, a3, a4, a5, a6, a7] [0, 0, 0, 0, 0, 0, 0, 0] [b0, b1, b2, b3, b4, b5, b6, b7])) (mulR [a0, a1, a2, a3, a4, a5, a6, a7] [0, 0, 0, 0, 0, 0, 0, 0] [b0, b1, b2, b3, b4, b5, b6, b7]), []) := by kernel_rfl
theorem rowR_eq : ∀ (ps bs : List Int) (c a : Int), isD ps → isD bs → (0 ≤ c ∧ c < 4294967296) → (0 ≤ a ∧ a < 4294967296) → rowR c a ps bs = rowL c a ps bs
  | [], bs, c, a, _, _, _, _ => by cases bs <;> rfl
  | p :: ps, [], c, a, _, _, _, _ => rfl
  | p :: ps, b :: bs, c, a, hp, hb, hc, ha => by
    have h1 := hp.1
    have h2 := hb.1
    have m0 : 0 ≤ a * b := Int.mul_nonneg ha.1 h2.1
    have m1 : a * b ≤ 4294967295 * 4294967295 := Int.mul_le_mul (by omega) (by omega) h2.1 (by omega)
    have e : cellR c p a b = c + p + a * b := by unfold cellR; rw [wu, wu, wu]; omega
    simp only [rowR, rowL, e, p32, lowR]
    rw [land32 _ (by omega) (by omega), rowR_eq ps bs _ a hp.2 hb.2 (by omega) ha]
theorem mulR_eq : ∀ (xs ps bs : List Int), isD xs → isD ps → isD bs → ps.length ≤ bs.length → mulR xs ps bs = mulL xs ps bs
  | [], ps, bs, _, _, _, _ => by cases ps <;> rfl
  | a :: xs, ps, bs, ha, hp, hb, hl => by
    simp only [mulR, mulL]
    rw [rowR_eq ps bs 0 a hp hb (by omega) ha.1, rowL_dig ps bs 0 a hl]
    match ps with
    | [] => rfl
    | p :: ps =>
      simp only [List.length_cons, dig]
      rw [mulR_eq xs _ bs ha.2 (dig_isD _ _) hb (by rw [dig_len]; simp at hl; omega)]
def mul8S : List LV → Option (LV × List (Bool × Bool))
  | [.v (.agg [.bool n, .int .u64 a0, .int .u64 a1, .int .u64 a2, .int .u64 a3, .int .u64 a4, .int .u64 a5, .int .u64 a6, .int .u64 a7]), .v (.agg [.bool m, .int .u64 b0, .int .u64 b1, .int .u64 b2, .int .u64 b3, .int .u64 b4, .int .u64 b5, .int .u64 b6, .int .u64 b7])] => some (bigL (bv n [a0, a1, a2, a3, a4, a5, a6, a7] * bv m [b0, b1, b2, b3, b4, b5, b6, b7]), [(isDB [a0, a1, a2, a3, a4, a5, a6, a7] && (isDB [b0, b1, b2, b3, b4, b5, b6, b7] && decide (fromD [a0, a1, a2, a3, a4, a5, a6, a7] * fromD [b0, b1, b2, b3, b4, b5, b6, b7] < P256)), true)])
  | _ => none
theorem sumMulB : SumOK Try.prog 62 (pureSum mul8S) := by
  refine pureSum_run (z := Zl) sound63 (own_of sound63 Try.func62 (by kernel_rfl)) fun args v cs hF hc => ?_
  unfold mul8S at hF
  split at hF
  · rename_i n a0 a1 a2 a3 a4 a5 a6 a7 m b0 b1 b2 b3 b4 b5 b6 b7
    cases hF
    have hd := hc _ (List.mem_singleton.2 rfl)
    simp only [Bool.and_eq_true, decide_eq_true_eq, isDB_iff] at hd
    obtain ⟨ha, hb, hlt⟩ := hd
    have h1 := fromD_bd ha
    have h2 := fromD_bd hb
    have z : isD [0, 0, 0, 0, 0, 0, 0, 0] := dig_isD 8 0
    have r := b3m n m a0 a1 a2 a3 a4 a5 a6 a7 b0 b1 b2 b3 b4 b5 b6 b7
    have q := mulL_dig [a0, a1, a2, a3, a4, a5, a6, a7] [0, 0, 0, 0, 0, 0, 0, 0] [b0, b1, b2, b3, b4, b5, b6, b7] z rfl (Nat.le_refl 8)
    have e0 : fromD [0, 0, 0, 0, 0, 0, 0, 0] = 0 := rfl
    rw [e0, Int.zero_add] at q
    rw [mulR_eq [a0, a1, a2, a3, a4, a5, a6, a7] [0, 0, 0, 0, 0, 0, 0, 0] [b0, b1, b2, b3, b4, b5, b6, b7] ha z hb (Nat.le_refl 8), q] at r
    have dm := dmade (n != m) (fromD [a0, a1, a2, a3, a4, a5, a6, a7] * fromD [b0, b1, b2, b3, b4, b5, b6, b7])
    have bd := bvdig (n != m) (Int.mul_nonneg h1.1 h2.1) hlt
    rw [bd] at dm
    have e : (bif n != m then -(fromD [a0, a1, a2, a3, a4, a5, a6, a7] * fromD [b0, b1, b2, b3, b4, b5, b6, b7]) else fromD [a0, a1, a2, a3, a4, a5, a6, a7] * fromD [b0, b1, b2, b3, b4, b5, b6, b7]) = bv n [a0, a1, a2, a3, a4, a5, a6, a7] * bv m [b0, b1, b2, b3, b4, b5, b6, b7] := by
      unfold bv
      generalize fromD [a0, a1, a2, a3, a4, a5, a6, a7] = x
      generalize fromD [b0, b1, b2, b3, b4, b5, b6, b7] = y
      cases n <;> cases m <;> simp [Int.neg_mul, Int.mul_neg]
    rw [e] at dm
    exact ⟨4000, _, _, r.trans (congrArg (fun x => some (x, _)) dm), ae_nil⟩
  · cases hF
noncomputable def S64 : FuncId → Option SumK := more (more (more (more S63 59 (pureSum of8S)) 60 (pureSum neg8S)) 58 (pureSum add8S)) 62 (pureSum mul8S)
theorem sound64 : Sound Try.prog S64 := (((sound63.more sumOf1).more sumNeg1).more sumAddB).more sumMulB
end Go.Proofs.Ytnabopepomjncaa

/- Numbers of 256 bits (astrolaberef1): powers of two. -/
namespace Go.Proofs.Ytnabopepomjncaa
open Go.Lr Go.Dg
set_option linter.unusedVariables false
set_option linter.unusedSimpArgs false

def tabA {α : Type} (f : Nat → α) : Nat → List α
  | 0 => []
  | n + 1 => f n :: tabA f n
def tabB {α : Type} (f : Nat → α) : Nat → List α
  | 0 => []
  | n + 1 => f n :: tabB f n
theorem tab_eq {α : Type} {f g : Nat → α} : ∀ {n : Nat}, tabA f n = tabB g n → ∀ i, i < n → f i = g i
  | 0, _, i, h => absurd h (Nat.not_lt_zero i)
  | n + 1, e, i, h => by
    simp only [tabA, tabB, List.cons.injEq] at e
    by_cases q : i = n
    · rw [q]; exact e.1
    · exact tab_eq e.2 i (by omega)
theorem b4p : tabA (fun s => (runF Try.prog S64 Zl 2000 68 [I (Int.ofNat s)] [] 0 []).map (fun r => (r.1, r.2.2.2))) 251 = tabB (fun s => some (bigL (pow2 s), [(decide (wr IntKind.u64 (Int.tmod (Int.ofNat s) 32) < 0), false)])) 251 := by kernel_rfl
def pow8S : List LV → Option (LV × List (Bool × Bool))
  | [.v (.one (.int .i64 s))] => some (bigL (pow2 s.toNat), [(decide (0 ≤ s) && decide (s ≤ 250), true)])
  | _ => none
theorem sumPow1 : SumOK Try.prog 68 (pureSum pow8S) := by
  refine pureSum_run (z := Zl) sound64 (own_of sound64 Try.func68 (by kernel_rfl)) fun args v cs hF hc => ?_
  unfold pow8S at hF
  split at hF
  · rename_i s
    cases hF
    have hd := hc _ (List.mem_singleton.2 rfl)
    simp only [Bool.and_eq_true, decide_eq_true_eq] at hd
    have r := tab_eq b4p s.toNat (by omega)
    have e : Int.ofNat s.toNat = s := Int.toNat_of_nonneg hd.1
    rw [e] at r
    refine ⟨2000, _, _, r, ae_cons ?_ ae_nil⟩
    rw [wu, decide_eq_false_iff_not]
    omega
  · cases hF
noncomputable def S65 : FuncId → Option SumK := more S64 68 (pureSum pow8S)
theorem sound65 : Sound Try.prog S65 := sound64.more sumPow1
end Go.Proofs.Ytnabopepomjncaa

/- Numbers of 256 bits (astrolaberef1): Round. -/
namespace Go.Proofs.Ytnabopepomjncaa
open Go.Lr Go.Dg
set_option linter.unusedVariables false
set_option linter.unusedSimpArgs false

abbrev rrN (s : Int) : Nat := min (wr IntKind.u64 (Int.tmod s 32)).toNat IntKind.u64.bits
abbrev ccN (s : Int) : Nat := min (wr IntKind.u64 (wr IntKind.i64 (32 - Int.tmod s 32))).toNat IntKind.u64.bits
def cellS (s a b : Int) : Int := Int.ofNat ((u64 (a / pow2 (rrN s))).toNat.lor (u64 (lowR (wr IntKind.u64 (b * pow2 (ccN s))))).toNat)
def shR (s : Int) : List Int → List Int
  | a :: b :: l => (if Int.tmod s 32 = 0 then a else cellS s a b) :: shR s (b :: l)
  | [a] => [if Int.tmod s 32 = 0 then a else a / pow2 (rrN s)]
  | [] => []
abbrev sumX (s : Int) (l : List Int) : Int := fromD l + fromD (dig 8 (absV (pow2 (wr IntKind.i64 (s - 1)).toNat)))
def qR (s : Int) (l : List Int) : List Int := shR s ((dig 8 (sumX s l)).drop (s / 32).toNat) ++ List.replicate (s / 32).toNat 0
def askB (s : Int) (tl : List (Bool × Bool)) : Nat → List (Bool × Bool)
  | 0 => tl
  | k + 1 => (decide (wr IntKind.u64 (wr IntKind.i64 (32 - Int.tmod s 32)) < 0), false) :: (decide (wr IntKind.u64 (Int.tmod s 32) < 0), false) :: askB s tl k
def askR (s : Int) (l : List Int) : List (Bool × Bool) := (decide (wr IntKind.u64 (Int.tmod s 32) < 0), false) :: askB s [(isDB l && isDB (dig 8 (absV (pow2 (wr IntKind.i64 (s - 1)).toNat))), true), (decide (0 ≤ wr IntKind.i64 (s - 1)) && decide (wr IntKind.i64 (s - 1) ≤ 250), true)] (7 - (s / 32).toNat)
theorem b5r0 (n : Bool) (a0 a1 a2 a3 a4 a5 a6 a7 : Int) : tabA (fun j => (runF Try.prog S65 Zl 4000 61 [.v (.agg [.bool n, .int .u64 a0, .int .u64 a1, .int .u64 a2, .int .u64 a3, .int .u64 a4, .int .u64 a5, .int .u64 a6, .int .u64 a7]), I (Int.ofNat (0 + (j + 1)))] [] 0 []).map (fun r => (r.1, r.2.2.2))) 12 = tabB (fun j => some (Bg (n && !zB (qR (Int.ofNat (0 + (j + 1))) [a0, a1, a2, a3, a4, a5, a6, a7])) (qR (Int.ofNat (0 + (j + 1))) [a0, a1, a2, a3, a4, a5, a6, a7]), askR (Int.ofNat (0 + (j + 1))) [a0, a1, a2, a3, a4, a5, a6, a7])) 12 := by kernel_rfl
theorem b5r1 (n : Bool) (a0 a1 a2 a3 a4 a5 a6 a7 : Int) : tabA (fun j => (runF Try.prog S65 Zl 4000 61 [.v (.agg [.bool n, .int .u64 a0, .int .u64 a1, .int .u64 a2, .int .u64 a3, .int .u64 a4, .int .u64 a5, .int .u64 a6, .int .u64 a7]), I (Int.ofNat (12 + (j + 1)))] [] 0 []).map (fun r => (r.1, r.2.2.2))) 12 = tabB (fun j => some (Bg (n && !zB (qR (Int.ofNat (12 + (j + 1))) [a0, a1, a2, a3, a4, a5, a6, a7])) (qR (Int.ofNat (12 + (j + 1))) [a0, a1, a2, a3, a4, a5, a6, a7]), askR (Int.ofNat (12 + (j + 1))) [a0, a1, a2, a3, a4, a5, a6, a7])) 12 := by kernel_rfl
theorem b5r2 (n : Bool) (a0 a1 a2 a3 a4 a5 a6 a7 : Int) : tabA (fun j => (runF Try.prog S65 Zl 4000 61 [.v (.agg [.bool n, .int .u64 a0, .int .u64 a1, .int .u64 a2, .int .u64 a3, .int .u64 a4, .int .u64 a5, .int .u64 a6, .int .u64 a7]), I (Int.ofNat (24 + (j + 1)))] [] 0 []).map (fun r => (r.1, r.2.2.2))) 12 = tabB (fun j => some (Bg (n && !zB (qR (Int.ofNat (24 + (j + 1))) [a0, a1, a2, a3, a4, a5, a6, a7])) (qR (Int.ofNat (24 + (j + 1))) [a0, a1, a2, a3, a4, a5, a6, a7]), askR (Int.ofNat (24 + (j + 1))) [a0, a1, a2, a3, a4, a5, a6, a7])) 12 := by kernel_rfl
theorem b5r3 (n : Bool) (a0 a1 a2 a3 a4 a5 a6 a7 : Int) : tabA (fun j => (runF Try.prog S65 Zl 4000 61 [.v (.agg [.bool n, .int .u64 a0, .int .u64 a1, .int .u64 a2, .int .u64 a3, .int .u64 a4, .int .u64 a5, .int .u64 a6, .int .u64 a7]), I (Int.ofNat (36 + (j + 1)))] [] 0 []).map (fun r => (r.1, r.2.2.2))) 12 = tabB (fun j => some (Bg (n && !zB (qR (Int.ofNat (36 + (j + 1))) [a0, a1, a2, a3, a4, a5, a6, a7])) (qR (Int.ofNat (36 + (j + 1))) [a0, a1, a2, a3, a4, a5, a6, a7]), askR (Int.ofNat (36 + (j + 1))) [a0, a1, a2, a3, a4, a5, a6, a7])) 12 := by kernel_rfl
theorem b5r4 (n : Bool) (a0 a1 a2 a3 a4 a5 a6 a7 : Int) : tabA (fun j => (runF Try.prog S65 Zl 4000 61 [.v (.agg [.bool n, .int .u64 a0, .int .u64 a1, .int .u64 a2, .int .u64 a3, .int .u64 a4, .int .u64 a5, .int .u64 a6, .int .u64 a7]), I (Int.ofNat (48 + (j + 1)))] [] 0 []).map (fun r => (r.1, r.2.2.2))) 12 = tabB (fun j => some (Bg (n && !zB (qR (Int.ofNat (48 + (j + 1))) [a0, a1, a2, a3, a4, a5, a6, a7])) (qR (Int.ofNat (48 + (j + 1))) [a0, a1, a2, a3, a4, a5, a6, a7]), askR (Int.ofNat (48 + (j + 1))) [a0, a1, a2, a3, a4, a5, a6, a7])) 12 := by kernel_rfl
theorem b5r5 (n : Bool) (a0 a1 a2 a3 a4 a5 a6 a7 : Int) : tabA (fun j => (runF Try.prog S65 Zl 4000 61 [.v (.agg [.bool n, .int .u64 a0, .int .u64 a1, .int .u64 a2, .int .u64 a3, .int .u64 a4, .int .u64 a5, .int .u64 a6, .int .u64 a7]), I (Int.ofNat (60 + (j + 1)))] [] 0 []).map (fun r => (r.1, r.2.2.2))) 12 = tabB (fun j => some (Bg (n && !zB (qR (Int.ofNat (60 + (j + 1))) [a0, a1, a2, a3, a4, a5, a6, a7])) (qR (Int.ofNat (60 + (j + 1))) [a0, a1, a2, a3, a4, a5, a6, a7]), askR (Int.ofNat (60 + (j + 1))) [a0, a1, a2, a3, a4, a5, a6, a7])) 12 := by kernel_rfl
theorem b5r6 (n : Bool) (a0 a1 a2 a3 a4 a5 a6 a7 : Int) : tabA (fun j => (runF Try.prog S65 Zl 4000 61 [.v (.agg [.bool n, .int .u64 a0, .int .u64 a1, .int .u64 a2, .int .u64 a3, .int .u64 a4, .int .u64 a5, .int .u64 a6, .int .u64 a7]), I (Int.ofNat (72 + (j + 1)))] [] 0 []).map (fun r => (r.1, r.2.2.2))) 12 = tabB (fun j => some (Bg (n && !zB (qR (Int.ofNat (72 + (j + 1))) [a0, a1, a2, a3, a4, a5, a6, a7])) (qR (Int.ofNat (72 + (j + 1))) [a0, a1, a2, a3, a4, a5, a6, a7]), askR (Int.ofNat (72 + (j + 1))) [a0, a1, a2, a3, a4, a5, a6, a7])) 12 := by kernel_rfl
theorem b5r7 (n : Bool) (a0 a1 a2 a3 a4 a5 a6 a7 : Int) : tabA (fun j => (runF Try.prog S65 Zl 4000 61 [.v (.agg [.bool n, .int .u64 a0, .int .u64 a1, .int .u64 a2, .int .u64 a3, .int .u64 a4, .int .u64 a5, .int .u64 a6, .int .u64 a7]), I (Int.ofNat (84 + (j + 1)))] [] 0 []).map (fun r => (r.1, r.2.2.2))) 12 = tabB (fun j => some (Bg (n && !zB (qR (Int.ofNat (84 + (j + 1))) [a0, a1, a2, a3, a4, a5, a6, a7])) (qR (Int.ofNat (84 + (j + 1))) [a0, a1, a2, a3, a4, a5, a6, a7]), askR (Int.ofNat (84 + (j + 1))) [a0, a1, a2, a3, a4, a5, a6, a7])) 12 := by kernel_rfl
theorem b5r8 (n : Bool) (a0 a1 a2 a3 a4 a5 a6 a7 : Int) : tabA (fun j => (runF Try.prog S65 Zl 4000 61 [.v (.agg [.bool n, .int .u64 a0, .int .u64 a1, .int .u64 a2, .int .u64 a3, .int .u64 a4, .int .u64 a5, .int .u64 a6, .int .u64 a7]), I (Int.ofNat (96 + (j + 1)))] [] 0 []).map (fun r => (r.1, r.2.2.2))) 12 = tabB (fun j => some (Bg (n && !zB (qR (Int.ofNat (96 + (j + 1))) [a0, a1, a2, a3, a4, a5, a6, a7])) (qR (Int.ofNat (96 + (j + 1))) [a0, a1, a2, a3, a4, a5, a6, a7]), askR (Int.ofNat (96 + (j + 1))) [a0, a1, a2, a3, a4, a5, a6, a7])) 12 := by kernel_rfl
theorem b5r9 (n : Bool) (a0 a1 a2 a3 a4 a5 a6 a7 : Int) : tabA (fun j => (runF Try.prog S65 Zl 4000 61 [.v (.agg [.bool n, .int .u64 a0, .int .u64 a1, .int .u64 a2, .int .u64 a3, .int .u64 a4, .int .u64 a5, .int .u64 a6, .int .u64 a7]), I (Int.ofNat (108 + (j + 1)))] [] 0 []).map (fun r => (r.1, r.2.2.2))) 12 = tabB (fun j => some (Bg (n && !zB (qR (Int.ofNat (108 + (j + 1))) [a0, a1, a2, a3, a4, a5, a6, a7])) (qR (Int.ofNat (108 + (j + 1))) [a0, a1, a2, a3, a4, a5, a6, a7]), askR (Int.ofNat (108 + (j + 1))) [a0, a1, a2, a3, a4, a5, a6, a7])) 12 := by kernel_rfl
theorem b5r (n : Bool) (a0 a1 a2 a3 a4 a5 a6 a7 : Int) (i : Nat) (h : i < 120) : (runF Try.prog S65 Zl 4000 61 [.v (.agg [.bool n, .int .u64 a0, .int .u64 a1, .int .u64 a2, .int .u64 a3, .int .u64 a4, .int .u64 a5, .int .u64 a6, .int .u64 a7]), I (Int.ofNat (i + 1))] [] 0 []).map (fun r => (r.1, r.2.2.2)) = some (Bg (n && !zB (qR (Int.ofNat (i + 1)) [a0, a1, a2, a3, a4, a5, a6, a7])) (qR (Int.ofNat (i + 1)) [a0, a1, a2, a3, a4, a5, a6, a7]), askR (Int.ofNat (i + 1)) [a0, a1, a2, a3, a4, a5, a6, a7]) := by
  by_cases h0 : i < 12
  · have r := tab_eq (b5r0 n a0 a1 a2 a3 a4 a5 a6 a7) (i - 0) (by omega)
    rw [show 0 + (i - 0 + 1) = i + 1 by omega] at r
    exact r
  by_cases h1 : i < 24
  · have r := tab_eq (b5r1 n a0 a1 a2 a3 a4 a5 a6 a7) (i - 12) (by omega)
    rw [show 12 + (i - 12 + 1) = i + 1 by omega] at r
    exact r
  by_cases h2 : i < 36
  · have r := tab_eq (b5r2 n a0 a1 a2 a3 a4 a5 a6 a7) (i - 24) (by omega)
    rw [show 24 + (i - 24 + 1) = i + 1 by omega] at r
    exact r
  by_cases h3 : i < 48
  · have r := tab_eq (b5r3 n a0 a1 a2 a3 a4 a5 a6 a7) (i - 36) (by omega)
    rw [show 36 + (i - 36 + 1) = i + 1 by omega] at r
    exact r
  by_cases h4 : i < 60
  · have r := tab_eq (b5r4 n a0 a1 a2 a3 a4 a5 a6 a7) (i - 48) (by omega)
    rw [show 48 + (i - 48 + 1) = i + 1 by omega] at r
    exact r
  by_cases h5 : i < 72
  · have r := tab_eq (b5r5 n a0 a1 a2 a3 a4 a5 a6 a7) (i - 60) (by omega)
    rw [show 60 + (i - 60 + 1) = i + 1 by omega] at r
    exact r
  by_cases h6 : i < 84
  · have r := tab_eq (b5r6 n a0 a1 a2 a3 a4 a5 a6 a7) (i - 72) (by omega)
    rw [show 72 + (i - 72 + 1) = i + 1 by omega] at r
    exact r
  by_cases h7 : i < 96
  · have r := tab_eq (b5r7 n a0 a1 a2 a3 a4 a5 a6 a7) (i - 84) (by omega)
    rw [show 84 + (i - 84 + 1) = i + 1 by omega] at r
    exact r
  by_cases h8 : i < 108
  · have r := tab_eq (b5r8 n a0 a1 a2 a3 a4 a5 a6 a7) (i - 96) (by omega)
    rw [show 96 + (i - 96 + 1) = i + 1 by omega] at r
    exact r
  by_cases h9 : i < 120
  · have r := tab_eq (b5r9 n a0 a1 a2 a3 a4 a5 a6 a7) (i - 108) (by omega)
    rw [show 108 + (i - 108 + 1) = i + 1 by omega] at r
    exact r
  omega

end Go.Proofs.Ytnabopepomjncaa

/- Numbers of 256 bits (astrolaberef1): Round, Fits, end. -/
namespace Go.Proofs.Ytnabopepomjncaa
open Go.Lr Go.Dg
set_option linter.unusedVariables false
set_option linter.unusedSimpArgs false

theorem fromD_drop : ∀ (k : Nat) {l : List Int}, isD l → isD (l.drop k) ∧ fromD (l.drop k) = fromD l / pow2 (32 * k)
  | 0, l, h => by
    refine ⟨h, ?_⟩
    show fromD l = fromD l / 1
    omega
  | k + 1, [], h => by
    refine ⟨trivial, ?_⟩
    show (0 : Int) = 0 / _
    rw [Int.zero_ediv]
  | k + 1, a :: l, h => by
    obtain ⟨h1, h2⟩ := fromD_drop k h.2
    refine ⟨h1, ?_⟩
    have ha := h.1
    show fromD (l.drop k) = _
    rw [h2]
    have e : pow2 (32 * (k + 1)) = 4294967296 * pow2 (32 * k) := by
      rw [show 32 * (k + 1) = 32 + 32 * k by omega, pow2_add]; rfl
    rw [e, ← Int.ediv_ediv_of_nonneg (by omega)]
    show _ = (a + 4294967296 * fromD l) / 4294967296 / _
    rw [show (a + 4294967296 * fromD l) / 4294967296 = fromD l by omega]
theorem fromD_zeros : ∀ (k : Nat), isD (List.replicate k 0) ∧ fromD (List.replicate k 0) = 0
  | 0 => ⟨trivial, rfl⟩
  | k + 1 => by
    obtain ⟨h1, h2⟩ := fromD_zeros k
    refine ⟨⟨⟨by omega, by omega⟩, h1⟩, ?_⟩
    show 0 + 4294967296 * fromD (List.replicate k 0) = 0
    rw [h2]; rfl
theorem fromD_app0 : ∀ {l : List Int} (k : Nat), isD l → isD (l ++ List.replicate k 0) ∧ fromD (l ++ List.replicate k 0) = fromD l
  | [], k, _ => fromD_zeros k
  | a :: l, k, h => by
    obtain ⟨h1, h2⟩ := fromD_app0 k h.2
    refine ⟨⟨h.1, h1⟩, ?_⟩
    show a + 4294967296 * fromD (l ++ List.replicate k 0) = _
    rw [h2]; rfl
theorem rr_of {s : Int} (h0 : 0 ≤ s) (h1 : s ≤ 120) : rrN s = (s % 32).toNat ∧ (Int.tmod s 32 = s % 32) := by
  have e : Int.tmod s 32 = s % 32 := Int.tmod_eq_emod_of_nonneg h0
  refine ⟨?_, e⟩
  unfold rrN
  rw [wu, e]
  show min _ 64 = _
  omega
theorem cc_of {s : Int} (h0 : 0 ≤ s) (h1 : s ≤ 120) : ccN s = 32 - (s % 32).toNat := by
  have e : Int.tmod s 32 = s % 32 := Int.tmod_eq_emod_of_nonneg h0
  unfold ccN
  have w : ∀ n : Int, wr IntKind.i64 n = w64 n := fun _ => rfl
  rw [e, wu, w, w64_in (by omega) (by omega)]
  show min _ 64 = _
  omega
theorem cell_of {s : Int} (h0 : 0 ≤ s) (h1 : s ≤ 120) (hr : s % 32 ≠ 0) {a b : Int} (ha : 0 ≤ a ∧ a < 4294967296) (hb : 0 ≤ b ∧ b < 4294967296) (f : Int) :
    cellS s a b = (a + 4294967296 * (b + 4294967296 * f)) / pow2 (rrN s) % 4294967296 := by
  have er := (rr_of h0 h1).1
  have ec := cc_of h0 h1
  unfold cellS
  rw [er, ec]
  generalize hq : (s % 32).toNat = r
  have hr1 : 1 ≤ r := by omega
  have hr2 : r ≤ 31 := by omega
  have hp := pow2_pos r
  have hc := pow2_pos (32 - r)
  have hpc : pow2 (32 - r) * pow2 r = 4294967296 := by rw [← pow2_add, show 32 - r + r = 32 by omega]; rfl
  have hc2 : pow2 (32 - r) ≤ 2147483648 := by
    have : pow2 (32 - r) * 2 ≤ pow2 (32 - r) * pow2 r := Int.mul_le_mul_of_nonneg_left (by
      have : pow2 r = 2 * pow2 (r - 1) := by rw [← pow2_succ, show r - 1 + 1 = r by omega]
      have := pow2_pos (r - 1)
      omega) (by omega)
    omega
  have hcd : pow2 (32 - r) = ((2 ^ (32 - r) : Nat) : Int) := rfl
  generalize hP : pow2 r = p at *
  generalize hC : pow2 (32 - r) = c at *
  have hcb0 : 0 ≤ b * c := Int.mul_nonneg hb.1 (by omega)
  have hcb1 : b * c ≤ 4294967295 * 2147483648 := Int.mul_le_mul (by omega) hc2 (by omega) (by omega)
  rw [wu, Int.emod_eq_of_lt hcb0 (by omega), lowR, land32 _ hcb0 (by omega)]
  have e1 : (b * c) % 4294967296 = c * (b % p) := by
    rw [← hpc, Int.mul_comm b c, Int.mul_emod_mul_of_pos _ _ hc]
  have hx0 := Int.emod_nonneg b (show p ≠ 0 by omega)
  have hx1 := Int.emod_lt_of_pos b hp
  have ha0 : 0 ≤ a / p := Int.ediv_nonneg ha.1 (by omega)
  have ha1 : a / p < c := Int.ediv_lt_of_lt_mul hp (by rw [hpc]; exact ha.2)
  have hs : c * (b % p) ≤ 4294967296 - c := by
    have : c * (b % p) ≤ c * (p - 1) := Int.mul_le_mul_of_nonneg_left (by omega) (by omega)
    have e : c * (p - 1) = c * p - c := by grind
    omega
  have hs0 : 0 ≤ c * (b % p) := Int.mul_nonneg (by omega) hx0
  rw [e1]
  have el : Int.ofNat ((u64 (a / p)).toNat.lor (u64 (c * (b % p))).toNat) = c * (b % p) + a / p := by
    have t1 : (u64 (a / p)).toNat = (a / p).toNat := by unfold u64; omega
    have t2 : (u64 (c * (b % p))).toNat = 2 ^ (32 - r) * (b % p).toNat := by
      have : (u64 (c * (b % p))) = c * (b % p) := by unfold u64; omega
      rw [this, hcd]
      obtain ⟨k, hk⟩ := Int.eq_ofNat_of_zero_le hx0
      rw [hk]
      show ((2 ^ (32 - r) : Nat) * (k : Nat) : Int).toNat = 2 ^ (32 - r) * k
      rw [← Int.natCast_mul]; rfl
    rw [t1, t2]
    have := Nat.two_pow_add_eq_or_of_lt (i := 32 - r) (b := (a / p).toNat) (by
      have : ((a / p).toNat : Int) < ((2 ^ (32 - r) : Nat) : Int) := by rw [← hcd]; omega
      exact Int.ofNat_lt.1 this) (b % p).toNat
    have oc : (a / p).toNat.lor (2 ^ (32 - r) * (b % p).toNat) = 2 ^ (32 - r) * (b % p).toNat ||| (a / p).toNat := Nat.or_comm _ _
    show (((a / p).toNat.lor (2 ^ (32 - r) * (b % p).toNat) : Nat) : Int) = _
    rw [oc, ← this, Int.natCast_add, Int.natCast_mul, ← hcd, Int.toNat_of_nonneg hx0, Int.toNat_of_nonneg ha0]
  rw [el]
  have e2 : (a + 4294967296 * (b + 4294967296 * f)) / p = a / p + c * (b + 4294967296 * f) := by
    rw [show a + 4294967296 * (b + 4294967296 * f) = a + p * (c * (b + 4294967296 * f)) by rw [← Int.mul_assoc, Int.mul_comm p c, hpc], Int.add_mul_ediv_left _ _ (by omega)]
  rw [e2]
  have e3 : c * (b + 4294967296 * f) = b * c + 4294967296 * (c * f) := by grind
  rw [e3]
  generalize c * f = u at *
  omega
theorem shR_of {s : Int} (h0 : 0 ≤ s) (h1 : s ≤ 120) : ∀ {l : List Int}, isD l → isD (shR s l) ∧ (shR s l).length = l.length ∧ fromD (shR s l) = fromD l / pow2 (rrN s)
  | [], _ => ⟨trivial, rfl, by show (0 : Int) = 0 / _; rw [Int.zero_ediv]⟩
  | [a], h => by
    have hp := pow2_pos (rrN s)
    have ha := h.1
    have et := (rr_of h0 h1).2
    have er := (rr_of h0 h1).1
    simp only [shR]
    split
    · rename_i q
      rw [et] at q
      have : rrN s = 0 := by rw [er, q]; rfl
      refine ⟨h, rfl, ?_⟩
      rw [this]; show fromD [a] = fromD [a] / 1; omega
    · have h2 : 0 ≤ a / pow2 (rrN s) := Int.ediv_nonneg ha.1 (by omega)
      have h3 : a / pow2 (rrN s) ≤ a := Int.ediv_le_self _ ha.1
      refine ⟨⟨⟨h2, by omega⟩, trivial⟩, rfl, ?_⟩
      simp only [fromD, Int.mul_zero, Int.add_zero]
  | a :: b :: l, h => by
    obtain ⟨i1, i2, i3⟩ := shR_of h0 h1 h.2
    have hp := pow2_pos (rrN s)
    have ha := h.1
    have hb := h.2.1
    have et := (rr_of h0 h1).2
    have er := (rr_of h0 h1).1
    simp only [shR]
    split
    · rename_i q
      rw [et] at q
      have r0 : rrN s = 0 := by rw [er, q]; rfl
      refine ⟨⟨ha, i1⟩, by simp only [List.length_cons] at i2 ⊢; omega, ?_⟩
      simp only [fromD] at i3 ⊢
      rw [i3, r0]
      show a + 4294967296 * ((b + 4294967296 * fromD l) / 1) = (a + 4294967296 * (b + 4294967296 * fromD l)) / 1
      omega
    · rename_i q
      rw [et] at q
      rw [cell_of h0 h1 q ha hb (fromD l)]
      refine ⟨⟨⟨Int.emod_nonneg _ (by omega), Int.emod_lt_of_pos _ (by omega)⟩, i1⟩, by simp only [List.length_cons] at i2 ⊢; omega, ?_⟩
      have e : fromD (a :: b :: l) = a + 4294967296 * (b + 4294967296 * fromD l) := rfl
      have e2 : fromD (b :: l) = b + 4294967296 * fromD l := rfl
      show _ % 4294967296 + 4294967296 * fromD (shR s (b :: l)) = _
      rw [i3, e, e2]
      have e3 : (b + 4294967296 * fromD l) / pow2 (rrN s) = (a + 4294967296 * (b + 4294967296 * fromD l)) / pow2 (rrN s) / 4294967296 := by
        rw [Int.ediv_ediv_of_nonneg (by omega), Int.mul_comm (pow2 (rrN s)), ← Int.ediv_ediv_of_nonneg (by omega)]
        congr 1; omega
      rw [e3]
      omega
theorem qR_of {s : Int} (h0 : 1 ≤ s) (h1 : s ≤ 120) {l : List Int} (hl : isD l) (hb : fromD l + pow2 (s - 1).toNat < P256) :
    isD (qR s l) ∧ (qR s l).length = 8 ∧ fromD (qR s l) = (fromD l + pow2 (s - 1).toNat) / pow2 s.toNat := by
  have w : ∀ n : Int, wr IntKind.i64 n = w64 n := fun _ => rfl
  have hl0 := fromD_bd hl
  have hq := pow2_pos (s - 1).toNat
  have eX : sumX s l = fromD l + pow2 (s - 1).toNat := by
    unfold sumX
    rw [w, w64_in (by omega) (by omega), absV_pos (by omega), fromD_dig 8 (by omega) (by rw [pw8]; omega)]
  have hX : 0 ≤ fromD l + pow2 (s - 1).toNat := by omega
  unfold qR
  rw [eX]
  generalize fromD l + pow2 (s - 1).toNat = X at *
  obtain ⟨d1, d2⟩ := fromD_drop (s / 32).toNat (dig_isD 8 X)
  have d3 : ((dig 8 X).drop (s / 32).toNat).length = 8 - (s / 32).toNat := by rw [List.length_drop, dig_len]
  obtain ⟨i1, i2, i3⟩ := shR_of (by omega) h1 d1
  obtain ⟨j1, j2⟩ := fromD_app0 (s / 32).toNat i1
  refine ⟨j1, ?_, ?_⟩
  · rw [List.length_append, i2, d3, List.length_replicate]; omega
  · rw [j2, i3, d2, fromD_dig 8 hX (by rw [pw8]; exact hb), (rr_of (by omega) h1).1, Int.ediv_ediv_of_nonneg (by have := pow2_pos (32 * (s / 32).toNat); omega), ← pow2_add]
    congr 2
    omega
theorem askR_ok {s : Int} (h0 : 1 ≤ s) (h1 : s ≤ 120) {l : List Int} (hl : isD l) : ∀ c ∈ askR s l, c.1 = c.2 := by
  have w : ∀ n : Int, wr IntKind.i64 n = w64 n := fun _ => rfl
  have q1 : decide (wr IntKind.u64 (Int.tmod s 32) < 0) = false := by rw [wu, decide_eq_false_iff_not]; omega
  have q2 : decide (wr IntKind.u64 (wr IntKind.i64 (32 - Int.tmod s 32)) < 0) = false := by rw [wu, decide_eq_false_iff_not]; omega
  have go : ∀ (tl : List (Bool × Bool)) (k : Nat), (∀ c ∈ tl, c.1 = c.2) → ∀ c ∈ askB s tl k, c.1 = c.2 := by
    intro tl k ht
    induction k with
    | zero => exact ht
    | succ k ih => exact ae_cons q2 (ae_cons q1 ih)
  refine ae_cons q1 (go _ _ (ae_cons ?_ (ae_cons ?_ ae_nil)))
  · rw [isDB_iff.2 hl, isDB_iff.2 (dig_isD 8 _)]; rfl
  · rw [w, w64_in (by omega) (by omega), Bool.and_eq_true, decide_eq_true_eq, decide_eq_true_eq]; omega
def round8S : List LV → Option (LV × List (Bool × Bool))
  | [.v (.agg [.bool n, .int .u64 a0, .int .u64 a1, .int .u64 a2, .int .u64 a3, .int .u64 a4, .int .u64 a5, .int .u64 a6, .int .u64 a7]), .v (.one (.int .i64 s))] => some (bigL (rndV (bv n [a0, a1, a2, a3, a4, a5, a6, a7]) s.toNat), [(isDB [a0, a1, a2, a3, a4, a5, a6, a7] && (decide (fromD [a0, a1, a2, a3, a4, a5, a6, a7] + 1329227995784915872903807060280344576 < P256) && ((decide (1 ≤ s) || (!n || !zB [a0, a1, a2, a3, a4, a5, a6, a7])) && (decide (0 ≤ s) && decide (s ≤ 120)))), true)])
  | _ => none
theorem b6r0 (n : Bool) (a0 a1 a2 a3 a4 a5 a6 a7 : Int) : (runF Try.prog S65 Zl 4000 61 [.v (.agg [.bool n, .int .u64 a0, .int .u64 a1, .int .u64 a2, .int .u64 a3, .int .u64 a4, .int .u64 a5, .int .u64 a6, .int .u64 a7]), I 0] [] 0 []).map (fun r => (r.1, r.2.2.2)) = some (Bg n [a0, a1, a2, a3, a4, a5, a6, a7], []) := by kernel_rfl
theorem pow2_120 : pow2 120 = 1329227995784915872903807060280344576 := by kernel_rfl
theorem sumRoundB : SumOK Try.prog 61 (pureSum round8S) := by
  refine pureSum_run (z := Zl) sound65 (own_of sound65 Try.func61 (by kernel_rfl)) fun args v cs hF hc => ?_
  unfold round8S at hF
  split at hF
  · rename_i n a0 a1 a2 a3 a4 a5 a6 a7 s
    cases hF
    have hd := hc _ (List.mem_singleton.2 rfl)
    simp only [Bool.and_eq_true, Bool.or_eq_true, decide_eq_true_eq, isDB_iff, Bool.not_eq_true'] at hd
    obtain ⟨ha, hlt, hn, hs0, hs1⟩ := hd
    have hb0 := fromD_bd ha
    have hab := absV_bv (n := n) ha
    rcases Int.lt_or_le s 1 with q | q
    · have hs : s = 0 := by omega
      subst hs
      have e : n = (n && !zB [a0, a1, a2, a3, a4, a5, a6, a7]) := by
        rcases hn with hn | hn | hn
        · omega
        · rw [hn]; rfl
        · rw [hn]; simp
      have r := b6r0 n a0 a1 a2 a3 a4 a5 a6 a7
      have m := made_big (n := n) ha rfl
      rw [← e] at m
      have ev : rndV (bv n [a0, a1, a2, a3, a4, a5, a6, a7]) (0 : Int).toNat = bv n [a0, a1, a2, a3, a4, a5, a6, a7] := by
        unfold rndV
        show sgn _ ((_ + 0) / 1) = _
        rw [Int.add_zero, Int.ediv_one, sgn_abs]
      rw [ev]
      exact ⟨4000, _, _, r.trans (congrArg (fun x => some (x, _)) m), ae_nil⟩
    · have r := b5r n a0 a1 a2 a3 a4 a5 a6 a7 (s - 1).toNat (by omega)
      have e : Int.ofNat ((s - 1).toNat + 1) = s := by
        show (((s - 1).toNat + 1 : Nat) : Int) = s
        omega
      simp only [e] at r
      have hp : pow2 (s - 1).toNat ≤ pow2 120 := pow2_mono (by omega)
      rw [pow2_120] at hp
      obtain ⟨i1, i2, i3⟩ := qR_of q hs1 ha (by omega)
      have m := made_big (n := n) i1 i2
      have ev : bv n (qR s [a0, a1, a2, a3, a4, a5, a6, a7]) = rndV (bv n [a0, a1, a2, a3, a4, a5, a6, a7]) s.toNat := by
        unfold rndV
        rw [hab]
        have eh : halfP s.toNat = pow2 (s - 1).toNat := by
          obtain ⟨k, hk⟩ : ∃ k, s.toNat = k + 1 := ⟨s.toNat - 1, by omega⟩
          rw [hk, show (s - 1).toNat = k by omega]; rfl
        rw [eh, ← i3]
        have hq0 := fromD_bd i1
        cases n
        · rw [show decide (bv false [a0, a1, a2, a3, a4, a5, a6, a7] < 0) = false from decide_eq_false (by unfold bv; rw [cond_false]; omega)]; rfl
        · unfold bv
          rw [cond_true, cond_true]
          by_cases g : fromD [a0, a1, a2, a3, a4, a5, a6, a7] = 0
          · have z : fromD (qR s [a0, a1, a2, a3, a4, a5, a6, a7]) = 0 := by
              rw [i3, g, Int.zero_add]
              have e2 : pow2 s.toNat = 2 * pow2 (s - 1).toNat := by rw [show s.toNat = (s - 1).toNat + 1 by omega, pow2_succ]
              have := pow2_pos (s - 1).toNat
              exact Int.ediv_eq_zero_of_lt (by omega) (by omega)
            rw [z, g]; rfl
          · rw [decide_eq_true (by omega)]; rfl
      rw [ev] at m
      exact ⟨4000, _, _, r.trans (congrArg (fun x => some (x, _)) m), askR_ok q hs1 ha⟩
  · cases hF
abbrev TY : TypeId := 37
def fits62 (v : Int) : Bool := decide (-4611686018427387904 ≤ v) && decide (v < 4611686018427387904)
def fits8S : List LV → Option (LV × List (Bool × Bool))
  | [.v (.agg [.bool n, .int .u64 a0, .int .u64 a1, .int .u64 a2, .int .u64 a3, .int .u64 a4, .int .u64 a5, .int .u64 a6, .int .u64 a7]), .v (.one (.int .i64 s))] => some (.v (.one (.bool (fits62 (bv n [a0, a1, a2, a3, a4, a5, a6, a7])))), [(isDB [a0, a1, a2, a3, a4, a5, a6, a7] && decide (s = 62), true)])
  | _ => none
theorem b7f0 (a0 a1 a2 a3 a4 a5 a6 a7 : Int) : (runF Try.prog S65 Zl 4000 118 [.v (.agg [.bool false, .int .u64 a0, .int .u64 a1, .int .u64 a2, .int .u64 a3, .int .u64 a4, .int .u64 a5, .int .u64 a6, .int .u64 a7]), I 62] [] 0 []).map (fun r => (r.1, r.2.2.2)) = some (.v (.one (.bool (decide (fromD [a0, a1, a2, a3, a4, a5, a6, a7] < fromD (dig 8 (absV (pow2 62))))))), [(isDB [a0, a1, a2, a3, a4, a5, a6, a7] && isDB (dig 8 (absV (pow2 62))), true), (decide ((0 : Int) ≤ 62) && decide ((62 : Int) ≤ 250), true)]) := by kernel_rfl
theorem b7f1 (a0 a1 a2 a3 a4 a5 a6 a7 : Int) : (runF Try.prog S65 Zl 4000 118 [.v (.agg [.bool true, .int .u64 a0, .int .u64 a1, .int .u64 a2, .int .u64 a3, .int .u64 a4, .int .u64 a5, .int .u64 a6, .int .u64 a7]), I 62] [] 0 []).map (fun r => (r.1, r.2.2.2)) = some (.v (.one (.bool (!decide (fromD (dig 8 (absV (pow2 62))) < fromD [a0, a1, a2, a3, a4, a5, a6, a7])))), [(isDB (dig 8 (absV (pow2 62))) && isDB [a0, a1, a2, a3, a4, a5, a6, a7], true), (decide ((0 : Int) ≤ 62) && decide ((62 : Int) ≤ 250), true)]) := by kernel_rfl
theorem sumFitsB : SumOK Try.prog 118 (pureSum fits8S) := by
  refine pureSum_run (z := Zl) sound65 (own_of sound65 Try.func118 (by kernel_rfl)) fun args v cs hF hc => ?_
  unfold fits8S at hF
  split at hF
  · rename_i n a0 a1 a2 a3 a4 a5 a6 a7 s
    cases hF
    have hd := hc _ (List.mem_singleton.2 rfl)
    simp only [Bool.and_eq_true, decide_eq_true_eq] at hd
    obtain ⟨ha, rfl⟩ := hd
    have hb := fromD_bd (isDB_iff.1 ha)
    have hq : isDB (dig 8 (absV (pow2 62))) = true := isDB_iff.2 (dig_isD 8 _)
    have hp : fromD (dig 8 (absV (pow2 62))) = 4611686018427387904 := by kernel_rfl
    cases n
    · have r := b7f0 a0 a1 a2 a3 a4 a5 a6 a7
      rw [hp] at r
      have e : decide (fromD [a0, a1, a2, a3, a4, a5, a6, a7] < 4611686018427387904) = fits62 (bv false [a0, a1, a2, a3, a4, a5, a6, a7]) := by
        unfold fits62 bv
        rw [cond_false, decide_eq_true (show -4611686018427387904 ≤ fromD [a0, a1, a2, a3, a4, a5, a6, a7] by omega)]; rfl
      rw [e] at r
      exact ⟨4000, _, _, r, ae_cons (by rw [ha, hq]; rfl) (ae_cons rfl ae_nil)⟩
    · have r := b7f1 a0 a1 a2 a3 a4 a5 a6 a7
      rw [hp] at r
      have e : (!decide (4611686018427387904 < fromD [a0, a1, a2, a3, a4, a5, a6, a7])) = fits62 (bv true [a0, a1, a2, a3, a4, a5, a6, a7]) := by
        unfold fits62 bv
        rw [cond_true, decide_eq_true (show -fromD [a0, a1, a2, a3, a4, a5, a6, a7] < 4611686018427387904 by omega), Bool.and_true, ← decide_not, decide_eq_decide]
        omega
      rw [e] at r
      exact ⟨4000, _, _, r, ae_cons (by rw [ha, hq]; rfl) (ae_cons rfl ae_nil)⟩
  · cases hF
noncomputable def S66 : FuncId → Option SumK := more (more S65 61 (pureSum round8S)) 118 (pureSum fits8S)
theorem sound66 : Sound Try.prog S66 := (sound65.more sumRoundB).more sumFitsB
theorem b7e0 (n : Bool) (a0 a1 a2 a3 a4 a5 a6 a7 : Int) (hb : Bool) : (runF Try.prog S66 Zl 4000 57 [A0, .v (.agg [.bool n, .int .u64 a0, .int .u64 a1, .int .u64 a2, .int .u64 a3, .int .u64 a4, .int .u64 a5, .int .u64 a6, .int .u64 a7])] [(0, flag TY hb)] 1 (ff 1 [])).map acc3 = some (I (satV (bv n [a0, a1, a2, a3, a4, a5, a6, a7])), some (flag TY (hb || satH (bv n [a0, a1, a2, a3, a4, a5, a6, a7]))), [(isDB [a0, a1, a2, a3, a4, a5, a6, a7] && decide (fromD [a0, a1, a2, a3, a4, a5, a6, a7] ≤ 9223372036854775807), true), (!fits62 (bv n [a0, a1, a2, a3, a4, a5, a6, a7]), false), (isDB [a0, a1, a2, a3, a4, a5, a6, a7] && decide ((62 : Int) = 62), true)]) := by kernel_rfl
theorem b7e1 (n : Bool) (a0 a1 a2 a3 a4 a5 a6 a7 : Int) (hb : Bool) : (runF Try.prog S66 Zl 4000 57 [A0, .v (.agg [.bool n, .int .u64 a0, .int .u64 a1, .int .u64 a2, .int .u64 a3, .int .u64 a4, .int .u64 a5, .int .u64 a6, .int .u64 a7])] [(0, flag TY hb)] 1 (tt 2 [])).map acc3 = some (I (-1152921504606846976), some (flag TY true), [(n, true), (!fits62 (bv n [a0, a1, a2, a3, a4, a5, a6, a7]), true), (isDB [a0, a1, a2, a3, a4, a5, a6, a7] && decide ((62 : Int) = 62), true)]) := by kernel_rfl
theorem b7e2 (n : Bool) (a0 a1 a2 a3 a4 a5 a6 a7 : Int) (hb : Bool) : (runF Try.prog S66 Zl 4000 57 [A0, .v (.agg [.bool n, .int .u64 a0, .int .u64 a1, .int .u64 a2, .int .u64 a3, .int .u64 a4, .int .u64 a5, .int .u64 a6, .int .u64 a7])] [(0, flag TY hb)] 1 (tt 1 (ff 1 []))).map acc3 = some (I 1152921504606846976, some (flag TY true), [(n, false), (!fits62 (bv n [a0, a1, a2, a3, a4, a5, a6, a7]), true), (isDB [a0, a1, a2, a3, a4, a5, a6, a7] && decide ((62 : Int) = 62), true)]) := by kernel_rfl
def end8S : List LV → Bool → Option (LV × Bool × List (Bool × Bool))
  | [.v (.agg [.bool n, .int .u64 a0, .int .u64 a1, .int .u64 a2, .int .u64 a3, .int .u64 a4, .int .u64 a5, .int .u64 a6, .int .u64 a7])], hb => some (I (satV (bv n [a0, a1, a2, a3, a4, a5, a6, a7])), hb || satH (bv n [a0, a1, a2, a3, a4, a5, a6, a7]), [(isDB [a0, a1, a2, a3, a4, a5, a6, a7], true)])
  | _, _ => none
theorem sat_lo8 {v : Int} (h : v < -1152921504606846976) : satV v = -1152921504606846976 ∧ satH v = true := by
  unfold satV satH clampV clampH
  simp [h]
theorem sat_hi8 {v : Int} (h : 1152921504606846976 < v) : satV v = 1152921504606846976 ∧ satH v = true := by
  have : ¬ v < -1152921504606846976 := by omega
  unfold satV satH clampV clampH
  simp [h, this]
theorem sumEndB : SumOK Try.prog 57 (accSum TY end8S) := by
  refine accSum_run (z := Zl) sound66 (own_of sound66 Try.func57 (by kernel_rfl)) fun args hb v h' cs hF hc => ?_
  unfold end8S at hF
  split at hF
  · rename_i n a0 a1 a2 a3 a4 a5 a6 a7
    cases hF
    have ha : isDB [a0, a1, a2, a3, a4, a5, a6, a7] = true := hc _ (List.mem_singleton.2 rfl)
    have ha' : (isDB [a0, a1, a2, a3, a4, a5, a6, a7] && decide ((62 : Int) = 62)) = true := by rw [ha]; rfl
    have hbd := fromD_bd (isDB_iff.1 ha)
    refine ⟨rfl, ?_⟩
    rcases bool_cases (fits62 (bv n [a0, a1, a2, a3, a4, a5, a6, a7])) with h | h
    · refine ⟨4000, _, _, b7e0 n a0 a1 a2 a3 a4 a5 a6 a7 hb, ae_cons ?_ (ae_cons (by rw [h]; rfl) (ae_cons ha' ae_nil))⟩
      have h2 := h
      unfold fits62 at h2
      simp only [Bool.and_eq_true, decide_eq_true_eq] at h2
      rw [ha, Bool.true_and, decide_eq_true_eq]
      cases n
      · simp only [bv, cond_false] at h2; omega
      · simp only [bv, cond_true] at h2; omega
    · have h2 := h
      unfold fits62 at h2
      simp only [Bool.and_eq_false_iff, decide_eq_false_iff_not] at h2
      cases n
      · obtain ⟨e1, e2⟩ := sat_hi8 (v := bv false [a0, a1, a2, a3, a4, a5, a6, a7]) (by simp only [bv, cond_false] at h2 ⊢; omega)
        rw [e1, e2, Bool.or_true]
        exact ⟨4000, _, _, b7e2 false a0 a1 a2 a3 a4 a5 a6 a7 hb, ae_cons rfl (ae_cons (by rw [h]; rfl) (ae_cons ha' ae_nil))⟩
      · obtain ⟨e1, e2⟩ := sat_lo8 (v := bv true [a0, a1, a2, a3, a4, a5, a6, a7]) (by simp only [bv, cond_true] at h2 ⊢; omega)
        rw [e1, e2, Bool.or_true]
        exact ⟨4000, _, _, b7e1 true a0 a1 a2 a3 a4 a5 a6 a7 hb, ae_cons rfl (ae_cons (by rw [h]; rfl) (ae_cons ha' ae_nil))⟩
  · cases hF
noncomputable def S67 : FuncId → Option SumK := more S66 57 (accSum TY end8S)
theorem sound67 : Sound Try.prog S67 := sound66.more sumEndB
end Go.Proofs.Ytnabopepomjncaa

/- Numbers of 256 bits (astrolaberef1): bits. -/
namespace Go.Proofs.Ytnabopepomjncaa
open Go.Lr Go.Dg
set_option linter.unusedVariables false
set_option linter.unusedSimpArgs false

def limb : Nat → List Int → Int
  | _, [] => 0
  | 0, a :: _ => a
  | k + 1, _ :: l => limb k l
def lowB (t : Int) : Int := Int.ofNat ((u64 t).toNat.land (u64 1).toNat)
theorem b9t (a0 a1 a2 a3 a4 a5 a6 a7 : Int) : tabA (fun i => (runF Try.prog S67 Zl 2000 145 [.v (.agg [.int .u64 a0, .int .u64 a1, .int .u64 a2, .int .u64 a3, .int .u64 a4, .int .u64 a5, .int .u64 a6, .int .u64 a7]), I (Int.ofNat i)] [] 0 []).map (fun r => (r.1, r.2.2.2))) 256 = tabB (fun i => some (.v (.one (.int .u64 (lowB (limb (i / 32) [a0, a1, a2, a3, a4, a5, a6, a7] / pow2 (rrN (Int.ofNat i)))))), [(decide (wr IntKind.u64 (Int.tmod (Int.ofNat i) 32) < 0), false)])) 256 := by kernel_rfl
theorem lowB_eq {t : Int} (h0 : 0 ≤ t) (h1 : t < 18446744073709551616) : lowB t = t % 2 := by
  have e : u64 t = t := by unfold u64; omega
  obtain ⟨k, rfl⟩ := Int.eq_ofNat_of_zero_le h0
  unfold lowB
  rw [e]
  show ((k.land 1 : Nat) : Int) = (k : Int) % 2
  have : k.land 1 = k % 2 := Nat.and_one_is_mod k
  rw [this]; omega
theorem limb_drop : ∀ (k : Nat) {l : List Int}, isD l → k < l.length → (0 ≤ limb k l ∧ limb k l < 4294967296) ∧ ∃ f, fromD l / pow2 (32 * k) = limb k l + 4294967296 * f
  | 0, a :: l, h, _ => ⟨h.1, fromD l, by show (a + 4294967296 * fromD l) / 1 = a + 4294967296 * fromD l; omega⟩
  | k + 1, a :: l, h, hk => by
    obtain ⟨h1, f, h2⟩ := limb_drop k (l := l) h.2 (by simp at hk; omega)
    refine ⟨h1, f, ?_⟩
    have ha := h.1
    have e : pow2 (32 * (k + 1)) = 4294967296 * pow2 (32 * k) := by
      rw [show 32 * (k + 1) = 32 + 32 * k by omega, pow2_add]; rfl
    show (a + 4294967296 * fromD l) / pow2 (32 * (k + 1)) = limb k l + 4294967296 * f
    rw [e, ← Int.ediv_ediv_of_nonneg (by omega), show (a + 4294967296 * fromD l) / 4294967296 = fromD l by omega, h2]
theorem bit_eq {l : List Int} {i : Nat} (h : isD l) (hl : l.length = 8) (hi : i < 256) : lowB (limb (i / 32) l / pow2 (rrN (Int.ofNat i))) = fromD l / pow2 i % 2 := by
  obtain ⟨⟨b0, b1⟩, f, h2⟩ := limb_drop (i / 32) h (by omega)
  have er : rrN (Int.ofNat i) = i % 32 := by
    unfold rrN
    show min (wr IntKind.u64 (Int.tmod (i : Int) 32)).toNat 64 = i % 32
    rw [Int.tmod_eq_emod_of_nonneg (by omega), wu]
    omega
  rw [er]
  have hp := pow2_pos (i % 32)
  have q0 : 0 ≤ limb (i / 32) l / pow2 (i % 32) := Int.ediv_nonneg b0 (by omega)
  have q1 : limb (i / 32) l / pow2 (i % 32) ≤ limb (i / 32) l := Int.ediv_le_self _ b0
  rw [lowB_eq q0 (by omega)]
  have e : pow2 i = pow2 (32 * (i / 32)) * pow2 (i % 32) := by rw [← pow2_add]; congr 1; omega
  have hp2 := pow2_pos (32 * (i / 32))
  rw [e, ← Int.ediv_ediv_of_nonneg (by omega), h2]
  have e2 : (4294967296 : Int) = pow2 (i % 32) * (2 * pow2 (31 - i % 32)) := by
    rw [← pow2_succ, ← pow2_add, show i % 32 + (31 - i % 32 + 1) = 32 by omega]; rfl
  rw [show limb (i / 32) l + 4294967296 * f = limb (i / 32) l + pow2 (i % 32) * (2 * pow2 (31 - i % 32) * f) by rw [← Int.mul_assoc, ← e2], Int.add_mul_ediv_left _ _ (by omega), Int.mul_assoc]
  omega
def bit8S : List LV → Option (LV × List (Bool × Bool))
  | [.v (.agg [.int .u64 a0, .int .u64 a1, .int .u64 a2, .int .u64 a3, .int .u64 a4, .int .u64 a5, .int .u64 a6, .int .u64 a7]), .v (.one (.int .i64 i))] => some (.v (.one (.int .u64 (fromD [a0, a1, a2, a3, a4, a5, a6, a7] / pow2 i.toNat % 2))), [(isDB [a0, a1, a2, a3, a4, a5, a6, a7] && (decide (0 ≤ i) && decide (i ≤ 255)), true)])
  | _ => none
theorem sumBit : SumOK Try.prog 145 (pureSum bit8S) := by
  refine pureSum_run (z := Zl) sound67 (own_of sound67 Try.func145 (by kernel_rfl)) fun args v cs hF hc => ?_
  unfold bit8S at hF
  split at hF
  · rename_i a0 a1 a2 a3 a4 a5 a6 a7 i
    cases hF
    have hd := hc _ (List.mem_singleton.2 rfl)
    simp only [Bool.and_eq_true, decide_eq_true_eq, isDB_iff] at hd
    obtain ⟨ha, h0, h1⟩ := hd
    have r := tab_eq (b9t a0 a1 a2 a3 a4 a5 a6 a7) i.toNat (by omega)
    have e : Int.ofNat i.toNat = i := Int.toNat_of_nonneg h0
    have hb := bit_eq (i := i.toNat) ha rfl (by omega)
    simp only [e] at r hb
    rw [hb] at r
    refine ⟨2000, _, _, r, ae_cons ?_ ae_nil⟩
    rw [wu, decide_eq_false_iff_not]
    omega
  · cases hF
noncomputable def S70 : FuncId → Option SumK := more S67 145 (pureSum bit8S)
theorem sound70 : Sound Try.prog S70 := sound67.more sumBit
end Go.Proofs.Ytnabopepomjncaa

/- Numbers of 256 bits (astrolaberef1): the division bit by bit. -/
namespace Go.Proofs.Ytnabopepomjncaa
open Go.Lr Go.Dg
set_option linter.unusedVariables false
set_option linter.unusedSimpArgs false

def u8B (l : List Int) : Blk := ⟨104, (0, 0), 0, l.map (At.int .u64)⟩
def z8 : List Int := [0, 0, 0, 0, 0, 0, 0, 0]
def lorI (x y : Int) : Int := Int.ofNat ((u64 x).toNat.lor (u64 y).toNat)
def r1L (A : List Int) (R : Int) (i : Nat) : List Int := (dig 8 (fromD (dig 8 R) + fromD (dig 8 R))).set 0 (lorI (limb 0 (dig 8 (fromD (dig 8 R) + fromD (dig 8 R)))) (fromD A / pow2 (Int.ofNat i).toNat % 2))
def oneB1 (i : Nat) : Int := wr IntKind.u64 (1 * pow2 (rrN (Int.ofNat i)))
def q1L (Q : Int) (i : Nat) : List Int := (dig 8 Q).set (i / 32) (lorI (limb (i / 32) (dig 8 Q)) (oneB1 i))
noncomputable def dvBd : Code := c2 (c2 (c2 (bodyF Try.prog 126)))
def dvK (A D : List Int) (i : Int) (Q R : Int) : Kst := ⟨[(2, .v (.one (.ptr 0 0))), (3, .v (.one (.ptr 1 0))), (4, .v (.one (.ptr 2 0))), (5, .v (.one (.ptr 3 0))), (6, .v (.one (.ptr 4 0))), (7, .v (.one (.ptr 5 0))), (8, I i)], [(0, u8B A), (1, u8B D), (2, u8B z8), (3, u8B z8), (4, u8B (dig 8 Q)), (5, u8B (dig 8 R))], 6⟩
def dvX (A D : List Int) (Q R : Int) : Kst := ⟨[(2, .v (.one (.ptr 0 0))), (3, .v (.one (.ptr 1 0))), (4, .v (.one (.ptr 2 0))), (5, .v (.one (.ptr 3 0))), (6, .v (.one (.ptr 4 0))), (7, .v (.one (.ptr 5 0)))], [(0, u8B A), (1, u8B D), (2, u8B z8), (3, u8B z8), (4, u8B (dig 8 Q)), (5, u8B (dig 8 R))], 6⟩
theorem dva (dead : Nat → Value) (a0 a1 a2 a3 a4 a5 a6 a7 d0 d1 d2 d3 d4 d5 d6 d7 : Int) : projS [2,3,4,5,6,7] [0,1,2,3,4,5] (execL Try.prog S70 Zl 400 (spineL 3 (bodyF Try.prog 126)) (Kst.st ⟨argsL 0 [.v (.agg [.int .u64 a0, .int .u64 a1, .int .u64 a2, .int .u64 a3, .int .u64 a4, .int .u64 a5, .int .u64 a6, .int .u64 a7]), .v (.agg [.int .u64 d0, .int .u64 d1, .int .u64 d2, .int .u64 d3, .int .u64 d4, .int .u64 d5, .int .u64 d6, .int .u64 d7])], [], 0⟩ 44 dead [])) = some (Ex.normal, [LV.v (.one (.ptr 0 0)), LV.v (.one (.ptr 1 0)), LV.v (.one (.ptr 2 0)), LV.v (.one (.ptr 3 0)), LV.v (.one (.ptr 4 0)), LV.v (.one (.ptr 5 0))], [some (u8B [a0, a1, a2, a3, a4, a5, a6, a7]), some (u8B [d0, d1, d2, d3, d4, d5, d6, d7]), some (u8B z8), some (u8B z8), some (u8B (dig 8 0)), some (u8B (dig 8 0))], []) := by kernel_rfl
theorem dvb (dead : Nat → Value) (a0 a1 a2 a3 a4 a5 a6 a7 d0 d1 d2 d3 d4 d5 d6 d7 : Int) : projS [2,3,4,5,6,7,8] [0,1,2,3,4,5] (exec Try.prog S70 Zl 400 (.code (c1 (c1 dvBd))) (Kst.st (dvX [a0, a1, a2, a3, a4, a5, a6, a7] [d0, d1, d2, d3, d4, d5, d6, d7] 0 0) 44 dead [])) = some (Ex.normal, [LV.v (.one (.ptr 0 0)), LV.v (.one (.ptr 1 0)), LV.v (.one (.ptr 2 0)), LV.v (.one (.ptr 3 0)), LV.v (.one (.ptr 4 0)), LV.v (.one (.ptr 5 0)), I 255], [some (u8B [a0, a1, a2, a3, a4, a5, a6, a7]), some (u8B [d0, d1, d2, d3, d4, d5, d6, d7]), some (u8B z8), some (u8B z8), some (u8B (dig 8 0)), some (u8B (dig 8 0))], []) := by kernel_rfl
theorem dvx (dead : Nat → Value) (a0 a1 a2 a3 a4 a5 a6 a7 d0 d1 d2 d3 d4 d5 d6 d7 : Int) (Q R : Int) : projS [2,3,4,5,6,7] [0,1,2,3,4,5] (exec Try.prog S70 Zl 400 (.code (c1 (c1 (c2 (c1 dvBd))))) (Kst.st (dvK [a0, a1, a2, a3, a4, a5, a6, a7] [d0, d1, d2, d3, d4, d5, d6, d7] (-1) Q R) 44 dead [])) = some (Ex.exit 0, [LV.v (.one (.ptr 0 0)), LV.v (.one (.ptr 1 0)), LV.v (.one (.ptr 2 0)), LV.v (.one (.ptr 3 0)), LV.v (.one (.ptr 4 0)), LV.v (.one (.ptr 5 0))], [some (u8B [a0, a1, a2, a3, a4, a5, a6, a7]), some (u8B [d0, d1, d2, d3, d4, d5, d6, d7]), some (u8B z8), some (u8B z8), some (u8B (dig 8 Q)), some (u8B (dig 8 R))], []) := by kernel_rfl
theorem dve (dead : Nat → Value) (a0 a1 a2 a3 a4 a5 a6 a7 d0 d1 d2 d3 d4 d5 d6 d7 : Int) (Q R : Int) : projS [4,5] [2,3] (exec Try.prog S70 Zl 400 (.code (c2 dvBd)) (Kst.st (dvX [a0, a1, a2, a3, a4, a5, a6, a7] [d0, d1, d2, d3, d4, d5, d6, d7] Q R) 44 dead [])) = some (Ex.ret, [LV.v (.one (.ptr 2 0)), LV.v (.one (.ptr 3 0))], [some (u8B (dig 8 Q)), some (u8B (dig 8 R))], []) := by kernel_rfl
theorem dvf (dead : Nat → Value) (a0 a1 a2 a3 a4 a5 a6 a7 d0 d1 d2 d3 d4 d5 d6 d7 : Int) (Q R : Int) : tabA (fun i => projS [2,3,4,5,6,7,8] [0,1,2,3,4,5] (exec Try.prog S70 Zl 400 (.code (c1 (c1 (c2 (c1 dvBd))))) (Kst.st (dvK [a0, a1, a2, a3, a4, a5, a6, a7] [d0, d1, d2, d3, d4, d5, d6, d7] (Int.ofNat i) Q R) 44 dead [none, some false]))) 256 = tabB (fun i => some (Ex.normal, [LV.v (.one (.ptr 0 0)), LV.v (.one (.ptr 1 0)), LV.v (.one (.ptr 2 0)), LV.v (.one (.ptr 3 0)), LV.v (.one (.ptr 4 0)), LV.v (.one (.ptr 5 0)), I (wr .i64 (Int.ofNat i - 1))], [some (u8B [a0, a1, a2, a3, a4, a5, a6, a7]), some (u8B [d0, d1, d2, d3, d4, d5, d6, d7]), some (u8B z8), some (u8B z8), some (u8B (dig 8 Q)), some (u8B (r1L [a0, a1, a2, a3, a4, a5, a6, a7] R i))], [((!decide (fromD (r1L [a0, a1, a2, a3, a4, a5, a6, a7] R i) < fromD [d0, d1, d2, d3, d4, d5, d6, d7])), false), (isDB (r1L [a0, a1, a2, a3, a4, a5, a6, a7] R i) && isDB [d0, d1, d2, d3, d4, d5, d6, d7], true), (isDB [a0, a1, a2, a3, a4, a5, a6, a7] && (decide (0 ≤ Int.ofNat i) && decide (Int.ofNat i ≤ 255)), true), (isDB (dig 8 R) && isDB (dig 8 R), true)])) 256 := by kernel_rfl
theorem dvt (dead : Nat → Value) (a0 a1 a2 a3 a4 a5 a6 a7 d0 d1 d2 d3 d4 d5 d6 d7 : Int) (Q R : Int) : tabA (fun i => projS [2,3,4,5,6,7,8] [0,1,2,3,4,5] (exec Try.prog S70 Zl 400 (.code (c1 (c1 (c2 (c1 dvBd))))) (Kst.st (dvK [a0, a1, a2, a3, a4, a5, a6, a7] [d0, d1, d2, d3, d4, d5, d6, d7] (Int.ofNat i) Q R) 44 dead [none, some true]))) 256 = tabB (fun i => some (Ex.normal, [LV.v (.one (.ptr 0 0)), LV.v (.one (.ptr 1 0)), LV.v (.one (.ptr 2 0)), LV.v (.one (.ptr 3 0)), LV.v (.one (.ptr 4 0)), LV.v (.one (.ptr 5 0)), I (wr .i64 (Int.ofNat i - 1))], [some (u8B [a0, a1, a2, a3, a4, a5, a6, a7]), some (u8B [d0, d1, d2, d3, d4, d5, d6, d7]), some (u8B z8), some (u8B z8), some (u8B (q1L Q i)), some (u8B (dig 8 (fromD (r1L [a0, a1, a2, a3, a4, a5, a6, a7] R i) - fromD [d0, d1, d2, d3, d4, d5, d6, d7])))], [(decide (wr IntKind.u64 (Int.tmod (Int.ofNat i) 32) < 0), false), (isDB (r1L [a0, a1, a2, a3, a4, a5, a6, a7] R i) && isDB [d0, d1, d2, d3, d4, d5, d6, d7], true), ((!decide (fromD (r1L [a0, a1, a2, a3, a4, a5, a6, a7] R i) < fromD [d0, d1, d2, d3, d4, d5, d6, d7])), true), (isDB (r1L [a0, a1, a2, a3, a4, a5, a6, a7] R i) && isDB [d0, d1, d2, d3, d4, d5, d6, d7], true), (isDB [a0, a1, a2, a3, a4, a5, a6, a7] && (decide (0 ≤ Int.ofNat i) && decide (Int.ofNat i ≤ 255)), true), (isDB (dig 8 R) && isDB (dig 8 R), true)])) 256 := by kernel_rfl

theorem lor_odd {x b : Int} (h0 : 0 ≤ x) (h1 : x < 4294967296) (he : x % 2 = 0) (hb : b = 0 ∨ b = 1) : lorI x b = x + b := by
  obtain ⟨k, rfl⟩ := Int.eq_ofNat_of_zero_le h0
  have e : u64 (k : Int) = k := by unfold u64; omega
  unfold lorI
  rw [e]
  rcases hb with rfl | rfl
  · show ((k.lor 0 : Nat) : Int) = k + 0
    have : k.lor 0 = k := Nat.or_zero k
    rw [this]; omega
  · show ((k.lor 1 : Nat) : Int) = k + 1
    have hk : k = 2 ^ 1 * (k / 2) := by omega
    have := Nat.two_pow_add_eq_or_of_lt (i := 1) (b := 1) (by decide) (k / 2)
    have h2 : k.lor 1 = k + 1 := by
      show k ||| 1 = k + 1
      rw [hk, ← this]
    rw [h2]; omega
theorem dig_cons (n : Nat) (v : Int) : dig (n + 1) v = v % 4294967296 :: dig n (v / 4294967296) := rfl
theorem r1_eq {R b : Int} (h0 : 0 ≤ R) (h1 : R + R + 1 < P256) (hb : b = 0 ∨ b = 1) : (dig 8 (fromD (dig 8 R) + fromD (dig 8 R))).set 0 (lorI (limb 0 (dig 8 (fromD (dig 8 R) + fromD (dig 8 R)))) b) = dig 8 (R + R + b) := by
  have hR : fromD (dig 8 R) = R := fromD_dig 8 h0 (by rw [pw8]; omega)
  rw [hR, dig_cons 7 (R + R), dig_cons 7 (R + R + b)]
  show lorI ((R + R) % 4294967296) b :: dig 7 ((R + R) / 4294967296) = _
  rw [lor_odd (by omega) (by omega) (by omega) hb]
  congr 1
  · omega
  · congr 1; omega
theorem rr_nat {i : Nat} : rrN (Int.ofNat i) = i % 32 := by
  unfold rrN
  show min (wr IntKind.u64 (Int.tmod (i : Int) 32)).toNat 64 = i % 32
  rw [Int.tmod_eq_emod_of_nonneg (by omega), wu]
  omega
theorem limb_dig : ∀ (n k : Nat) (v : Int), k < n → limb k (dig n v) = v / pow2 (32 * k) % 4294967296
  | n + 1, 0, v, _ => by
    show v % 4294967296 = v / 1 % 4294967296
    omega
  | n + 1, k + 1, v, h => by
    have e : pow2 (32 * (k + 1)) = 4294967296 * pow2 (32 * k) := by
      rw [show 32 * (k + 1) = 32 + 32 * k by omega, pow2_add]; rfl
    show limb k (dig n (v / 4294967296)) = _
    rw [limb_dig n k _ (by omega), e, Int.ediv_ediv_of_nonneg (by omega)]
theorem set_dig : ∀ (n k : Nat) (v x : Int), k < n → 0 ≤ x → limb k (dig n v) + x < 4294967296 → (dig n v).set k (limb k (dig n v) + x) = dig n (v + x * pow2 (32 * k))
  | n + 1, 0, v, x, _, h0, h1 => by
    have h1' : v % 4294967296 + x < 4294967296 := h1
    show (v % 4294967296 + x) :: dig n (v / 4294967296) = ((v + x * 1) % 4294967296) :: dig n ((v + x * 1) / 4294967296)
    rw [Int.mul_one]
    congr 1
    · omega
    · congr 1; omega
  | n + 1, k + 1, v, x, hk, h0, h1 => by
    have e : pow2 (32 * (k + 1)) = 4294967296 * pow2 (32 * k) := by
      rw [show 32 * (k + 1) = 32 + 32 * k by omega, pow2_add]; rfl
    have ih := set_dig n k (v / 4294967296) x (by omega) h0 h1
    show v % 4294967296 :: (dig n (v / 4294967296)).set k (limb k (dig n (v / 4294967296)) + x) = _
    rw [ih, e, dig_cons, show x * (4294967296 * pow2 (32 * k)) = 4294967296 * (x * pow2 (32 * k)) by rw [← Int.mul_assoc, Int.mul_comm x, Int.mul_assoc]]
    congr 1
    · omega
    · congr 1; omega
theorem q1_eq {q : Int} {i : Nat} (hi : i < 256) : q1L (q * pow2 (i + 1)) i = dig 8 (q * pow2 (i + 1) + pow2 i) := by
  have hp := pow2_pos (i % 32)
  have e32 : (4294967296 : Int) = pow2 (i % 32 + 1) * pow2 (31 - i % 32) := by
    rw [← pow2_add, show i % 32 + 1 + (31 - i % 32) = 32 by omega]; rfl
  have e1 : pow2 (i + 1) = pow2 (32 * (i / 32)) * pow2 (i % 32 + 1) := by rw [← pow2_add]; congr 1; omega
  have e2 : pow2 i = pow2 (i % 32) * pow2 (32 * (i / 32)) := by rw [← pow2_add]; congr 1; omega
  have hp2 := pow2_pos (32 * (i / 32))
  have hs : pow2 (i % 32 + 1) = 2 * pow2 (i % 32) := pow2_succ _
  have hw := pow2_pos (31 - i % 32)
  have hl : limb (i / 32) (dig 8 (q * pow2 (i + 1))) = pow2 (i % 32 + 1) * (q % pow2 (31 - i % 32)) := by
    rw [limb_dig 8 _ _ (by omega), e1, show q * (pow2 (32 * (i / 32)) * pow2 (i % 32 + 1)) = q * pow2 (i % 32 + 1) * pow2 (32 * (i / 32)) by rw [Int.mul_assoc, Int.mul_comm (pow2 (i % 32 + 1))], Int.mul_ediv_cancel _ (by omega), e32, Int.mul_comm q, Int.mul_emod_mul_of_pos _ _ (by omega)]
  have t0 := Int.emod_nonneg q (show pow2 (31 - i % 32) ≠ 0 by omega)
  have t1 := Int.emod_lt_of_pos q hw
  have ho : oneB1 i = pow2 (i % 32) := by
    unfold oneB1
    rw [rr_nat, Int.one_mul, wu]
    have : pow2 (i % 32) ≤ pow2 31 := pow2_mono (by omega)
    have e31 : pow2 31 = 2147483648 := by kernel_rfl
    omega
  have hlt : pow2 (i % 32 + 1) * (q % pow2 (31 - i % 32)) + pow2 (i % 32) < 4294967296 := by
    have : pow2 (i % 32 + 1) * (q % pow2 (31 - i % 32)) ≤ pow2 (i % 32 + 1) * (pow2 (31 - i % 32) - 1) := Int.mul_le_mul_of_nonneg_left (by omega) (by omega)
    have e : pow2 (i % 32 + 1) * (pow2 (31 - i % 32) - 1) = pow2 (i % 32 + 1) * pow2 (31 - i % 32) - pow2 (i % 32 + 1) := by rw [Int.mul_sub, Int.mul_one]
    omega
  have h0 : 0 ≤ pow2 (i % 32 + 1) * (q % pow2 (31 - i % 32)) := Int.mul_nonneg (by omega) t0
  have hor : lorI (pow2 (i % 32 + 1) * (q % pow2 (31 - i % 32))) (pow2 (i % 32)) = pow2 (i % 32 + 1) * (q % pow2 (31 - i % 32)) + pow2 (i % 32) := by
    obtain ⟨k, hk⟩ := Int.eq_ofNat_of_zero_le t0
    rw [hk] at h0 hlt ⊢
    have p1 : pow2 (i % 32 + 1) = ((2 ^ (i % 32 + 1) : Nat) : Int) := rfl
    have p2 : pow2 (i % 32) = ((2 ^ (i % 32) : Nat) : Int) := rfl
    have u1 : u64 (pow2 (i % 32 + 1) * (k : Int)) = pow2 (i % 32 + 1) * (k : Int) := by
      generalize pow2 (i % 32 + 1) * (k : Int) = z at *
      unfold u64; omega
    have u2 : u64 (pow2 (i % 32)) = pow2 (i % 32) := by
      generalize pow2 (i % 32 + 1) * (k : Int) = z at *
      unfold u64; omega
    unfold lorI
    rw [u1, u2, p1, p2, ← Int.natCast_mul]
    show (((2 ^ (i % 32 + 1) * k).lor (2 ^ (i % 32)) : Nat) : Int) = _
    have := Nat.two_pow_add_eq_or_of_lt (i := i % 32 + 1) (b := 2 ^ (i % 32)) (Nat.pow_lt_pow_right (by decide) (by omega)) k
    have h2 : (2 ^ (i % 32 + 1) * k).lor (2 ^ (i % 32)) = 2 ^ (i % 32 + 1) * k + 2 ^ (i % 32) := this.symm
    rw [h2, Int.natCast_add]
  unfold q1L
  rw [ho, hl, hor, ← hl, set_dig 8 (i / 32) _ _ (by omega) (by omega) (by rw [hl]; exact hlt), ← e2]
/-- The quotient and the rest, so many bits down. -/
def qN (A D : Int) (i : Nat) : Int := A / pow2 i / D * pow2 i
def rN (A D : Int) (i : Nat) : Int := A / pow2 i % D
theorem div_step {A D : Int} (hD : 0 < D) (i : Nat) :
    (rN A D (i + 1) + rN A D (i + 1) + A / pow2 i % 2 < D → rN A D i = rN A D (i + 1) + rN A D (i + 1) + A / pow2 i % 2 ∧ qN A D i = qN A D (i + 1)) ∧
    (¬ rN A D (i + 1) + rN A D (i + 1) + A / pow2 i % 2 < D → rN A D i = rN A D (i + 1) + rN A D (i + 1) + A / pow2 i % 2 - D ∧ qN A D i = qN A D (i + 1) + pow2 i) := by
  have hp := pow2_pos i
  have e : A / pow2 (i + 1) = A / pow2 i / 2 := by rw [pow2_succ, Int.mul_comm, ← Int.ediv_ediv_of_nonneg (by omega)]
  unfold rN qN
  rw [e]
  generalize A / pow2 i = B
  have h1 := Int.mul_ediv_add_emod (B / 2) D
  have h2 := Int.emod_nonneg (B / 2) (show D ≠ 0 by omega)
  have h3 := Int.emod_lt_of_pos (B / 2) hD
  have es : pow2 (i + 1) = 2 * pow2 i := pow2_succ i
  generalize hq : B / 2 / D = q at *
  generalize hr : B / 2 % D = r at *
  have hB : B = D * (2 * q) + (r + r + B % 2) := by
    have e2 : D * (2 * q) = 2 * (D * q) := by grind
    rw [e2]; omega
  have hm := Int.emod_nonneg B (show (2 : Int) ≠ 0 by omega)
  refine ⟨fun h => ?_, fun h => ?_⟩
  · have d1 : B / D = 2 * q := by
      rw [hB, Int.mul_add_ediv_left _ _ (by omega), Int.ediv_eq_zero_of_lt (by omega) h, Int.add_zero]
    have d2 : B % D = r + r + B % 2 := by
      have := Int.mul_ediv_add_emod B D
      rw [d1] at this
      omega
    refine ⟨d2, ?_⟩
    rw [d1, es, Int.mul_comm 2 q, Int.mul_assoc]
  · have d1 : B / D = 2 * q + 1 := by
      have : B = D * (2 * q + 1) + (r + r + B % 2 - D) := by rw [Int.mul_add, Int.mul_one]; omega
      rw [this, Int.mul_add_ediv_left _ _ (by omega), Int.ediv_eq_zero_of_lt (by omega) (by omega), Int.add_zero]
    have d2 : B % D = r + r + B % 2 - D := by
      have := Int.mul_ediv_add_emod B D
      rw [d1, Int.mul_add, Int.mul_one] at this
      omega
    refine ⟨d2, ?_⟩
    rw [d1, es, Int.add_mul, Int.one_mul, Int.mul_comm 2 q, Int.mul_assoc]

theorem dvStep (a0 a1 a2 a3 a4 a5 a6 a7 d0 d1 d2 d3 d4 d5 d6 d7 : Int) (hA : isD [a0, a1, a2, a3, a4, a5, a6, a7]) (hd : isD [d0, d1, d2, d3, d4, d5, d6, d7]) (hD : 0 < fromD [d0, d1, d2, d3, d4, d5, d6, d7]) (hD2 : 2 * fromD [d0, d1, d2, d3, d4, d5, d6, d7] ≤ P256) (i : Nat) (hi : i < 256) :
    To Try.prog 44 (c1 (c1 (c2 (c1 dvBd)))) (dvK [a0, a1, a2, a3, a4, a5, a6, a7] [d0, d1, d2, d3, d4, d5, d6, d7] (Int.ofNat i) (qN (fromD [a0, a1, a2, a3, a4, a5, a6, a7]) (fromD [d0, d1, d2, d3, d4, d5, d6, d7]) (i + 1)) (rN (fromD [a0, a1, a2, a3, a4, a5, a6, a7]) (fromD [d0, d1, d2, d3, d4, d5, d6, d7]) (i + 1))) .normal (dvK [a0, a1, a2, a3, a4, a5, a6, a7] [d0, d1, d2, d3, d4, d5, d6, d7] ((i : Int) - 1) (qN (fromD [a0, a1, a2, a3, a4, a5, a6, a7]) (fromD [d0, d1, d2, d3, d4, d5, d6, d7]) i) (rN (fromD [a0, a1, a2, a3, a4, a5, a6, a7]) (fromD [d0, d1, d2, d3, d4, d5, d6, d7]) i)) := by
  obtain ⟨s1, s2⟩ := div_step (A := fromD [a0, a1, a2, a3, a4, a5, a6, a7]) hD i
  have b0 : 0 ≤ rN (fromD [a0, a1, a2, a3, a4, a5, a6, a7]) (fromD [d0, d1, d2, d3, d4, d5, d6, d7]) (i + 1) := Int.emod_nonneg _ (by omega)
  have b1 : rN (fromD [a0, a1, a2, a3, a4, a5, a6, a7]) (fromD [d0, d1, d2, d3, d4, d5, d6, d7]) (i + 1) < fromD [d0, d1, d2, d3, d4, d5, d6, d7] := Int.emod_lt_of_pos _ hD
  have hb : fromD [a0, a1, a2, a3, a4, a5, a6, a7] / pow2 i % 2 = 0 ∨ fromD [a0, a1, a2, a3, a4, a5, a6, a7] / pow2 i % 2 = 1 := by omega
  have hr1 : r1L [a0, a1, a2, a3, a4, a5, a6, a7] (rN (fromD [a0, a1, a2, a3, a4, a5, a6, a7]) (fromD [d0, d1, d2, d3, d4, d5, d6, d7]) (i + 1)) i = dig 8 (rN (fromD [a0, a1, a2, a3, a4, a5, a6, a7]) (fromD [d0, d1, d2, d3, d4, d5, d6, d7]) (i + 1) + rN (fromD [a0, a1, a2, a3, a4, a5, a6, a7]) (fromD [d0, d1, d2, d3, d4, d5, d6, d7]) (i + 1) + fromD [a0, a1, a2, a3, a4, a5, a6, a7] / pow2 i % 2) := r1_eq b0 (by omega) hb
  have hq1 : q1L (qN (fromD [a0, a1, a2, a3, a4, a5, a6, a7]) (fromD [d0, d1, d2, d3, d4, d5, d6, d7]) (i + 1)) i = dig 8 (qN (fromD [a0, a1, a2, a3, a4, a5, a6, a7]) (fromD [d0, d1, d2, d3, d4, d5, d6, d7]) (i + 1) + pow2 i) := q1_eq hi
  have hf := fromD_dig 8 (v := rN (fromD [a0, a1, a2, a3, a4, a5, a6, a7]) (fromD [d0, d1, d2, d3, d4, d5, d6, d7]) (i + 1) + rN (fromD [a0, a1, a2, a3, a4, a5, a6, a7]) (fromD [d0, d1, d2, d3, d4, d5, d6, d7]) (i + 1) + fromD [a0, a1, a2, a3, a4, a5, a6, a7] / pow2 i % 2) (by omega) (by rw [pw8]; omega)
  have e4 : wr .i64 (Int.ofNat i - 1) = (i : Int) - 1 := w64_in (by show -9223372036854775808 ≤ (i : Int) - 1; omega) (by show (i : Int) - 1 < _; omega)
  have iA : isDB [a0, a1, a2, a3, a4, a5, a6, a7] = true := isDB_iff.2 hA
  have iD : isDB [d0, d1, d2, d3, d4, d5, d6, d7] = true := isDB_iff.2 hd
  have i0 : (decide (0 ≤ Int.ofNat i) && decide (Int.ofNat i ≤ 255)) = true := by
    rw [decide_eq_true (show (0 : Int) ≤ Int.ofNat i from Int.natCast_nonneg i), decide_eq_true (show Int.ofNat i ≤ 255 by show (i : Int) ≤ 255; omega)]; rfl
  generalize qN (fromD [a0, a1, a2, a3, a4, a5, a6, a7]) (fromD [d0, d1, d2, d3, d4, d5, d6, d7]) (i + 1) = Q at *
  generalize rN (fromD [a0, a1, a2, a3, a4, a5, a6, a7]) (fromD [d0, d1, d2, d3, d4, d5, d6, d7]) (i + 1) = R at *
  by_cases h : R + R + fromD [a0, a1, a2, a3, a4, a5, a6, a7] / pow2 i % 2 < fromD [d0, d1, d2, d3, d4, d5, d6, d7]
  · obtain ⟨g1, g2⟩ := s1 h
    rw [g1, g2]
    refine To.run (z := Zl) sound70 (slots := [2, 3, 4, 5, 6, 7, 8]) (blks := [0, 1, 2, 3, 4, 5]) (vs := [LV.v (.one (.ptr 0 0)), LV.v (.one (.ptr 1 0)), LV.v (.one (.ptr 2 0)), LV.v (.one (.ptr 3 0)), LV.v (.one (.ptr 4 0)), LV.v (.one (.ptr 5 0)), I ((i : Int) - 1)]) (bs := [u8B [a0, a1, a2, a3, a4, a5, a6, a7], u8B [d0, d1, d2, d3, d4, d5, d6, d7], u8B z8, u8B z8, u8B (dig 8 Q), u8B (dig 8 (R + R + fromD [a0, a1, a2, a3, a4, a5, a6, a7] / pow2 i % 2))]) (nbB := 6)
      (fun dead => tab_eq (dvf dead a0 a1 a2 a3 a4 a5 a6 a7 d0 d1 d2 d3 d4 d5 d6 d7 Q R) i hi) rfl (by rw [e4]) (by rw [hr1]; rfl) ?_ (canB_ok (by rfl)) (Nat.le_refl _)
    rw [hr1, hf, iD, iA, i0, decide_eq_true h, isDB_iff.2 (dig_isD 8 R), isDB_iff.2 (dig_isD 8 _)]
    simp
  · obtain ⟨g1, g2⟩ := s2 h
    rw [g1, g2]
    refine To.run (z := Zl) sound70 (slots := [2, 3, 4, 5, 6, 7, 8]) (blks := [0, 1, 2, 3, 4, 5]) (vs := [LV.v (.one (.ptr 0 0)), LV.v (.one (.ptr 1 0)), LV.v (.one (.ptr 2 0)), LV.v (.one (.ptr 3 0)), LV.v (.one (.ptr 4 0)), LV.v (.one (.ptr 5 0)), I ((i : Int) - 1)]) (bs := [u8B [a0, a1, a2, a3, a4, a5, a6, a7], u8B [d0, d1, d2, d3, d4, d5, d6, d7], u8B z8, u8B z8, u8B (dig 8 (Q + pow2 i)), u8B (dig 8 (R + R + fromD [a0, a1, a2, a3, a4, a5, a6, a7] / pow2 i % 2 - fromD [d0, d1, d2, d3, d4, d5, d6, d7]))]) (nbB := 6)
      (fun dead => tab_eq (dvt dead a0 a1 a2 a3 a4 a5 a6 a7 d0 d1 d2 d3 d4 d5 d6 d7 Q R) i hi) rfl (by rw [e4]) (by rw [hr1, hq1, hf]; rfl) ?_ (canB_ok (by rfl)) (Nat.le_refl _)
    have ew : decide (wr IntKind.u64 (Int.tmod (Int.ofNat i) 32) < 0) = false := by
      rw [wu, decide_eq_false_iff_not]; omega
    rw [ew, hr1, hf, iD, iA, i0, decide_eq_false h, isDB_iff.2 (dig_isD 8 R), isDB_iff.2 (dig_isD 8 _)]
    simp
theorem dvRd (a0 a1 a2 a3 a4 a5 a6 a7 d0 d1 d2 d3 d4 d5 d6 d7 : Int) (hA : isD [a0, a1, a2, a3, a4, a5, a6, a7]) (hd : isD [d0, d1, d2, d3, d4, d5, d6, d7]) (hD : 0 < fromD [d0, d1, d2, d3, d4, d5, d6, d7]) (hD2 : 2 * fromD [d0, d1, d2, d3, d4, d5, d6, d7] ≤ P256) : ∀ j, j ≤ 256 →
    Rd Try.prog 44 (c1 (c1 (c2 (c1 dvBd)))) (j + 1) (dvK [a0, a1, a2, a3, a4, a5, a6, a7] [d0, d1, d2, d3, d4, d5, d6, d7] ((j : Int) - 1) (qN (fromD [a0, a1, a2, a3, a4, a5, a6, a7]) (fromD [d0, d1, d2, d3, d4, d5, d6, d7]) j) (rN (fromD [a0, a1, a2, a3, a4, a5, a6, a7]) (fromD [d0, d1, d2, d3, d4, d5, d6, d7]) j)) (.exit 0) (dvX [a0, a1, a2, a3, a4, a5, a6, a7] [d0, d1, d2, d3, d4, d5, d6, d7] (qN (fromD [a0, a1, a2, a3, a4, a5, a6, a7]) (fromD [d0, d1, d2, d3, d4, d5, d6, d7]) 0) (rN (fromD [a0, a1, a2, a3, a4, a5, a6, a7]) (fromD [d0, d1, d2, d3, d4, d5, d6, d7]) 0))
  | 0, _ => Rd.last (by simp) (To.exec (z := Zl) sound70 (slots := [2, 3, 4, 5, 6, 7]) (blks := [0, 1, 2, 3, 4, 5]) (vs := [LV.v (.one (.ptr 0 0)), LV.v (.one (.ptr 1 0)), LV.v (.one (.ptr 2 0)), LV.v (.one (.ptr 3 0)), LV.v (.one (.ptr 4 0)), LV.v (.one (.ptr 5 0))]) (bs := [u8B [a0, a1, a2, a3, a4, a5, a6, a7], u8B [d0, d1, d2, d3, d4, d5, d6, d7], u8B z8, u8B z8, u8B (dig 8 _), u8B (dig 8 _)]) (nbB := 6) (fun dead => dvx dead a0 a1 a2 a3 a4 a5 a6 a7 d0 d1 d2 d3 d4 d5 d6 d7 _ _) ae_nil (canB_ok (by rfl)) (Nat.le_refl _))
  | j + 1, h => by
    have s := dvStep a0 a1 a2 a3 a4 a5 a6 a7 d0 d1 d2 d3 d4 d5 d6 d7 hA hd hD hD2 j (by omega)
    have e : (((j + 1 : Nat) : Int) - 1) = Int.ofNat j := by show _ = (j : Int); omega
    rw [e]
    exact Rd.next s (dvRd a0 a1 a2 a3 a4 a5 a6 a7 d0 d1 d2 d3 d4 d5 d6 d7 hA hd hD hD2 j (by omega))
def div8S (args : List LV) : Option (LV × List (Bool × Bool)) :=
  match pair8 args with
  | some (l, m) => some (.tup [.agg ((dig 8 (fromD l / fromD m)).map (At.int .u64)), .agg ((dig 8 (fromD l % fromD m)).map (At.int .u64))], [(isDB l && (isDB m && (decide (0 < fromD m) && decide (2 * fromD m ≤ P256))), true)])
  | none => none
theorem sumDivide : SumOK Try.prog 126 (pureSum div8S) := by
  refine pureSum_ok fun args v cs hF hc w => ?_
  unfold div8S at hF
  split at hF
  · rename_i l m hp
    obtain ⟨a0, a1, a2, a3, a4, a5, a6, a7, d0, d1, d2, d3, d4, d5, d6, d7, he, rfl⟩ := pair8_spec hp
    cases he
    refine callOK_of (own_of sound70 Try.func126 (by kernel_rfl)) ?_
    cases hF
    have hq := hc _ (List.mem_singleton.2 rfl)
    simp only [Bool.and_eq_true, decide_eq_true_eq, isDB_iff] at hq
    obtain ⟨hA, hd, hD, hD2⟩ := hq
    have hrd := dvRd a0 a1 a2 a3 a4 a5 a6 a7 d0 d1 d2 d3 d4 d5 d6 d7 hA hd hD hD2 256 (Nat.le_refl _)
    have hb := fromD_bd hA
    have hz : fromD [a0, a1, a2, a3, a4, a5, a6, a7] / pow2 256 = 0 := Int.ediv_eq_zero_of_lt hb.1 hb.2
    have z1 : qN (fromD [a0, a1, a2, a3, a4, a5, a6, a7]) (fromD [d0, d1, d2, d3, d4, d5, d6, d7]) 256 = 0 := by unfold qN; rw [hz, Int.zero_ediv, Int.zero_mul]
    have z2 : rN (fromD [a0, a1, a2, a3, a4, a5, a6, a7]) (fromD [d0, d1, d2, d3, d4, d5, d6, d7]) 256 = 0 := by unfold rN; rw [hz, Int.zero_emod]
    have y1 : qN (fromD [a0, a1, a2, a3, a4, a5, a6, a7]) (fromD [d0, d1, d2, d3, d4, d5, d6, d7]) 0 = fromD [a0, a1, a2, a3, a4, a5, a6, a7] / fromD [d0, d1, d2, d3, d4, d5, d6, d7] := by
      unfold qN; show fromD [a0, a1, a2, a3, a4, a5, a6, a7] / 1 / _ * 1 = _; rw [Int.ediv_one, Int.mul_one]
    have y2 : rN (fromD [a0, a1, a2, a3, a4, a5, a6, a7]) (fromD [d0, d1, d2, d3, d4, d5, d6, d7]) 0 = fromD [a0, a1, a2, a3, a4, a5, a6, a7] % fromD [d0, d1, d2, d3, d4, d5, d6, d7] := by
      unfold rN; show fromD [a0, a1, a2, a3, a4, a5, a6, a7] / 1 % _ = _; rw [Int.ediv_one]
    rw [z1, z2, y1, y2] at hrd
    refine calls_pure (c := bodyF Try.prog 126) (e := .ret) (B := ⟨[(4, .v (.one (.ptr 2 0))), (5, .v (.one (.ptr 3 0)))], [(2, u8B (dig 8 (fromD [a0, a1, a2, a3, a4, a5, a6, a7] / fromD [d0, d1, d2, d3, d4, d5, d6, d7]))), (3, u8B (dig 8 (fromD [a0, a1, a2, a3, a4, a5, a6, a7] % fromD [d0, d1, d2, d3, d4, d5, d6, d7])))], 6⟩) Try.func126 (by kernel_rfl) (Nat.le_of_ble_eq_true (by kernel_rfl)) (Nat.le_of_ble_eq_true (by kernel_rfl)) rfl ?_ (.inr rfl) (fun dead => by kernel_rfl) rfl w
    refine To.spineR (z := Zl) sound70 (k := 3) (slots := [2, 3, 4, 5, 6, 7]) (blks := [0, 1, 2, 3, 4, 5]) (vs := [LV.v (.one (.ptr 0 0)), LV.v (.one (.ptr 1 0)), LV.v (.one (.ptr 2 0)), LV.v (.one (.ptr 3 0)), LV.v (.one (.ptr 4 0)), LV.v (.one (.ptr 5 0))]) (bs := [u8B [a0, a1, a2, a3, a4, a5, a6, a7], u8B [d0, d1, d2, d3, d4, d5, d6, d7], u8B z8, u8B z8, u8B (dig 8 0), u8B (dig 8 0)]) (nbB := 6) (by kernel_rfl) (fun dead => dva dead a0 a1 a2 a3 a4 a5 a6 a7 d0 d1 d2 d3 d4 d5 d6 d7) rfl rfl rfl ae_nil (canB_ok (by rfl)) (Nat.zero_le _) ?_
    refine To.seq (by kernel_rfl) (To.seq (by kernel_rfl) (To.run (z := Zl) sound70 (slots := [2, 3, 4, 5, 6, 7, 8]) (blks := [0, 1, 2, 3, 4, 5]) (vs := [LV.v (.one (.ptr 0 0)), LV.v (.one (.ptr 1 0)), LV.v (.one (.ptr 2 0)), LV.v (.one (.ptr 3 0)), LV.v (.one (.ptr 4 0)), LV.v (.one (.ptr 5 0)), I 255]) (bs := [u8B [a0, a1, a2, a3, a4, a5, a6, a7], u8B [d0, d1, d2, d3, d4, d5, d6, d7], u8B z8, u8B z8, u8B (dig 8 0), u8B (dig 8 0)]) (nbB := 6) (fun dead => dvb dead a0 a1 a2 a3 a4 a5 a6 a7 d0 d1 d2 d3 d4 d5 d6 d7) rfl rfl rfl ae_nil (canB_ok (by rfl)) (Nat.le_refl _))
      (To.block (id := 0) (by kernel_rfl) (To.loop (m := 257) (by kernel_rfl) hrd) (.inl rfl))) ?_
    exact To.run (z := Zl) sound70 (slots := [4, 5]) (blks := [2, 3]) (vs := [.v (.one (.ptr 2 0)), .v (.one (.ptr 3 0))]) (bs := [u8B (dig 8 (fromD [a0, a1, a2, a3, a4, a5, a6, a7] / fromD [d0, d1, d2, d3, d4, d5, d6, d7])), u8B (dig 8 (fromD [a0, a1, a2, a3, a4, a5, a6, a7] % fromD [d0, d1, d2, d3, d4, d5, d6, d7]))]) (nbB := 6) (fun dead => dve dead a0 a1 a2 a3 a4 a5 a6 a7 d0 d1 d2 d3 d4 d5 d6 d7 _ _) rfl rfl rfl ae_nil (canB_ok (by rfl)) (Nat.le_refl _)
  · cases hF
noncomputable def S71 : FuncId → Option SumK := more S70 126 (pureSum div8S)
theorem sound71 : Sound Try.prog S71 := sound70.more sumDivide
end Go.Proofs.Ytnabopepomjncaa

/- Numbers of 256 bits (astrolaberef1): Sum. -/
namespace Go.Proofs.Ytnabopepomjncaa
open Go.Lr Go.Dg
set_option linter.unusedVariables false
set_option linter.unusedSimpArgs false

def bB (v : Int) : Blk := ⟨106, (0, 0), 0, At.bool (decide (v < 0)) :: (dig 8 (absV v)).map (At.int .u64)⟩
def P2b : LV := .v (.one (.ptr 2 0))
theorem sma (dead : Nat → Value) (hb : Bool) (o n c : Nat) (ty : TypeId) (fr : Nat × Nat) (es : Nat) (l : List At) : projS [0,1,5] [0,1,2] (execL Try.prog S67 Zl 400 (spineL 2 (bodyF Try.prog 28)) (Kst.st ⟨argsL 0 [A0, SLX 1 o n c], [(0, flag TY hb), (1, ⟨ty, fr, es, l⟩)], 2⟩ 26 dead [])) = some (Ex.normal, [A0, SLX 1 o n c, P2b], [some (flag TY hb), some ⟨ty, fr, es, l⟩, some (bB 0)], [(i64B 0, true)]) := by kernel_rfl
noncomputable def smBd : Code := c1 (c2 (c2 (bodyF Try.prog 28)))
theorem smb (dead : Nat → Value) (hb : Bool) (o n c : Nat) (ty : TypeId) (fr : Nat × Nat) (es : Nat) (l : List At) : projS [0,1,5,6] [0,1,2] (exec Try.prog S67 Zl 400 (.code (c1 smBd)) (Kst.st ⟨[(0, A0), (1, SLX 1 o n c), (5, P2b)], [(0, flag TY hb), (1, ⟨ty, fr, es, l⟩), (2, bB 0)], 3⟩ 26 dead [])) = some (Ex.normal, [A0, SLX 1 o n c, P2b, I 0], [some (flag TY hb), some ⟨ty, fr, es, l⟩, some (bB 0)], []) := by kernel_rfl
theorem smc (dead : Nat → Value) (hb : Bool) (o n c : Nat) (ty : TypeId) (fr : Nat × Nat) (es : Nat) (l : List At) (v i : Int) : projS [0,1,5,6] [0,1,2] (exec Try.prog S67 Zl 400 (.code (c1 (c1 (c2 smBd)))) (Kst.st ⟨[(0, A0), (1, SLX 1 o n c), (5, P2b), (6, I i)], [(0, flag TY hb), (1, ⟨ty, fr, es, l⟩), (2, bB v)], 3⟩ 26 dead [some true])) = some (Ex.normal, [A0, SLX 1 o n c, P2b, I (wr .i64 (i + 1))], [some (flag TY (hb || satH (intAt l (o + i.toNat * 1)))), some ⟨ty, fr, es, l⟩, some (bB (bv (decide (v < 0)) (dig 8 (absV v)) + bv (decide (satV (intAt l (o + i.toNat * 1)) < 0)) (dig 8 (absV (satV (intAt l (o + i.toNat * 1)))))))], [(isDB (dig 8 (absV v)) && (isDB (dig 8 (absV (satV (intAt l (o + i.toNat * 1))))) && decide (fromD (dig 8 (absV v)) + fromD (dig 8 (absV (satV (intAt l (o + i.toNat * 1))))) < P256)), true), (i64B (satV (intAt l (o + i.toNat * 1))), true), (isIntAt .i64 l (o + i.toNat * 1), true), (decide (0 ≤ i) && decide (i < (n : Int)), true), (decide (i < (n : Int)), true)]) := by kernel_rfl
theorem smd (dead : Nat → Value) (hb : Bool) (o n c : Nat) (ty : TypeId) (fr : Nat × Nat) (es : Nat) (l : List At) (v i : Int) : projS [0,5] [0,1,2] (exec Try.prog S67 Zl 400 (.code (c1 (c1 (c2 smBd)))) (Kst.st ⟨[(0, A0), (1, SLX 1 o n c), (5, P2b), (6, I i)], [(0, flag TY hb), (1, ⟨ty, fr, es, l⟩), (2, bB v)], 3⟩ 26 dead [some false])) = some (Ex.exit 0, [A0, P2b], [some (flag TY hb), some ⟨ty, fr, es, l⟩, some (bB v)], [(decide (i < (n : Int)), false)]) := by kernel_rfl
theorem sme (dead : Nat → Value) (hb : Bool) (ty : TypeId) (fr : Nat × Nat) (es : Nat) (l : List At) (v : Int) : projS [4] [0,1] (exec Try.prog S67 Zl 400 (.code (c2 (c2 (c2 (bodyF Try.prog 28))))) (Kst.st ⟨[(0, A0), (5, P2b)], [(0, flag TY hb), (1, ⟨ty, fr, es, l⟩), (2, bB v)], 3⟩ 26 dead [])) = some (Ex.ret, [I (satV (bv (decide (v < 0)) (dig 8 (absV v))))], [some (flag TY (hb || satH (bv (decide (v < 0)) (dig 8 (absV v))))), some ⟨ty, fr, es, l⟩], [(isDB (dig 8 (absV v)), true)]) := by kernel_rfl

def smA (k : Blk) (o n c : Nat) (h : Bool) (v : Int) (i : Int) : Kst := ⟨[(0, A0), (1, SLX 1 o n c), (5, P2b), (6, I i)], [(0, flag TY h), (1, k), (2, bB v)], 3⟩
def smB (k : Blk) (h : Bool) (v : Int) : Kst := ⟨[(0, A0), (5, P2b)], [(0, flag TY h), (1, k), (2, bB v)], 3⟩
theorem absV_le {v b : Int} (h0 : -b ≤ v) (h1 : v ≤ b) : absV v ≤ b := by unfold absV; split <;> omega
theorem isDBd (v : Int) : isDB (dig 8 v) = true := isDB_iff.2 (dig_isD 8 _)
theorem i64sat (a : Int) : i64B (satV a) = true := by
  have := sat_bd a
  unfold i64B
  rw [Bool.and_eq_true, decide_eq_true_eq, decide_eq_true_eq]; omega
theorem P256_big : (1361129467683753853853498429727072845824 : Int) < P256 := by unfold P256; omega
theorem bv_sm {v : Int} (h : absV v ≤ 340282366920938463463374607431768211456) : bv (decide (v < 0)) (dig 8 (absV v)) = v := bv_big (by have := P256_big; omega)
theorem fD_sm {v : Int} (h : absV v ≤ 340282366920938463463374607431768211456) : fromD (dig 8 (absV v)) = absV v := fromD_dig 8 (absV_nn v) (by rw [pw8]; have := P256_big; omega)
theorem add_sm {v w : Int} (h : absV v ≤ 340282366920938463463374607431768211456) (g : absV w ≤ 340282366920938463463374607431768211456) : (isDB (dig 8 (absV v)) && (isDB (dig 8 (absV w)) && decide (fromD (dig 8 (absV v)) + fromD (dig 8 (absV w)) < P256))) = true := by
  have := P256_big
  rw [isDBd, isDBd, fD_sm h, fD_sm g, Bool.true_and, Bool.true_and, decide_eq_true_eq]; omega

theorem smStep (k : Blk) (o n c : Nat) (xs : List Int) (hk : SlAt 1 k o n xs) (hn : n ≤ 1000000) (hb : Bool) (i : Nat) (hi : i < n) :
    To Try.prog 26 (c1 (c1 (c2 smBd))) (smA k o n c (hb || anyH (xs.take i)) (sumS (xs.take i)) i) .normal (smA k o n c (hb || anyH (xs.take (i + 1))) (sumS (xs.take (i + 1))) ((i : Int) + 1)) := by
  obtain ⟨hlen, hat, hok⟩ := hk
  have hi' : i < xs.length := by omega
  have hx := intAt_of (hat i hi')
  have hs := take_snoc xs i hi'
  have b0 := sumS_bd (xs.take i)
  rw [List.length_take] at b0
  have b1 := sat_bd xs[i]
  have hm : ((min i xs.length : Nat) : Int) = i := by omega
  rw [hm] at b0
  have e1 : sumS (xs.take (i + 1)) = sumS (xs.take i) + satV xs[i] := by rw [hs, sumS_app]; simp [sumS]
  have e2 : (hb || anyH (xs.take (i + 1))) = ((hb || anyH (xs.take i)) || satH xs[i]) := by rw [hs, anyH_app]; simp [anyH, Bool.or_assoc]
  have e3 : ((i : Int)).toNat * 1 = i := by simp
  have e4 : wr .i64 ((i : Int) + 1) = (i : Int) + 1 := w64_in (by omega) (by omega)
  have c0 : absV (satV xs[i]) ≤ 340282366920938463463374607431768211456 := absV_le (by omega) (by omega)
  have c2 := i64sat xs[i]
  obtain ⟨ty, fr, es, l⟩ := k
  rw [e1, e2]
  generalize sumS (xs.take i) = S at *
  have c1 : absV S ≤ 340282366920938463463374607431768211456 := absV_le (by omega) (by omega)
  refine To.run (z := Zl) sound67 (slots := [0, 1, 5, 6]) (blks := [0, 1, 2]) (vs := [A0, SLX 1 o n c, P2b, I ((i : Int) + 1)])
    (bs := [flag TY ((hb || anyH (xs.take i)) || satH xs[i]), ⟨ty, fr, es, l⟩, bB (S + satV xs[i])]) (nbB := 3)
    (fun dead => smc dead (hb || anyH (xs.take i)) o n c ty fr es l S i) rfl (by rw [e4]) (by rw [e3, hx.1, bv_sm c0, bv_sm c1]; rfl) ?_ (kst_ok rfl (memOK3 (Nat.le_refl _) rfl (okL_mono noP_below hok) rfl)) (Nat.le_refl _)
  rw [e3, hx.1, hx.2, add_sm c1 c0, c2]
  refine ae_cons rfl (ae_cons rfl (ae_cons rfl (ae_cons ?_ (ae_cons ?_ ae_nil))))
  · rw [Bool.and_eq_true, decide_eq_true_eq, decide_eq_true_eq]; omega
  · rw [decide_eq_true_eq]; omega

theorem smEnd (k : Blk) (o n c : Nat) (hok : okL noP k.cells = true) (h : Bool) (v : Int) : To Try.prog 26 (c1 (c1 (c2 smBd))) (smA k o n c h v n) (.exit 0) (smB k h v) := by
  obtain ⟨ty, fr, es, l⟩ := k
  refine To.exec (z := Zl) sound67 (slots := [0, 5]) (blks := [0, 1, 2]) (vs := [A0, P2b]) (bs := [flag TY h, ⟨ty, fr, es, l⟩, bB v]) (nbB := 3) (fun dead => smd dead h o n c ty fr es l v n) ?_ (kst_ok rfl (memOK3 (Nat.le_refl _) rfl (okL_mono noP_below hok) rfl)) (Nat.le_refl _)
  simp

theorem smRd (k : Blk) (o n c : Nat) (xs : List Int) (hk : SlAt 1 k o n xs) (hn : n ≤ 1000000) (hb : Bool) : ∀ (m i : Nat), i + m = n →
    Rd Try.prog 26 (c1 (c1 (c2 smBd))) (m + 1) (smA k o n c (hb || anyH (xs.take i)) (sumS (xs.take i)) i) (.exit 0) (smB k (hb || anyH xs) (sumS xs))
  | 0, i, h => by
    have hi : i = n := by omega
    have hl : xs.length = n := by have := hk.1; omega
    subst hi
    rw [← hl, List.take_length, hl]
    exact Rd.last (by simp) (smEnd k o i c hk.2.2 _ _)
  | m + 1, i, h => Rd.next (smStep k o n c xs hk hn hb i (by omega)) (smRd k o n c xs hk hn hb m (i + 1) (by omega))

def sum8S : List AV → Bool → Option (LV × Bool × List (Bool × Bool))
  | [.ints xs], hb => some (I (faddV xs), hb || faddH xs, [(decide (xs.length ≤ 1000000), true)])
  | _, _ => none
theorem smnil (hb : Bool) : (runF Try.prog S67 Zl 2000 28 [A0, .v (.one .nilsl)] [(0, flag TY hb)] 1 []).map (fun r => (r.1, getM r.2.1 0, r.2.2.2)) = some (I 0, some (flag TY (hb || false)), [(isDB (dig 8 (absV 0)), true), (i64B 0, true)]) := by kernel_rfl
theorem sumSumB : SumOK Try.prog 28 (acSum TY 1 sum8S) := by
  refine acSum1_ok (own_of sound67 Try.func28 (by kernel_rfl)) (fun avs hb r h => ?_) fun pre xs hb v h' cs hF hc hp hv => ?_
  · unfold sum8S at h
    split at h
    · exact ⟨[], _, rfl⟩
    · cases h
  · have hpre : pre = [] := by
      cases pre with
      | nil => rfl
      | cons p pre =>
        simp only [List.map_cons, List.cons_append] at hF
        unfold sum8S at hF
        split at hF
        · rename_i he; simp at he
        · cases hF
    subst hpre
    have hF' : some (I (faddV xs), hb || faddH xs, [(decide (xs.length ≤ 1000000), true)]) = some (v, h', cs) := hF
    cases hF'
    simp only [all_tt, decide_eq_true_eq] at hc
    obtain ⟨hn, -⟩ := hc
    refine ⟨fun k o n c hk _ E w hrel => ?_, fun hx E w hrel => ?_⟩
    · have hlen : xs.length = n := by have := hk.1; omega
      rw [hlen] at hn
      have hok := hk.2.2
      have hR := smRd k o n c xs hk hn hb n 0 (by omega)
      have b0 := sumS_bd xs
      rw [hlen] at b0
      have c1 : absV (sumS xs) ≤ 340282366920938463463374607431768211456 := absV_le (by omega) (by omega)
      obtain ⟨ty, fr, es, l⟩ := k
      refine lcl_of_To (c := bodyF Try.prog 28) (e := .ret) (nb := 2) (B := ⟨[(4, I (faddV xs))], [(0, flag TY (hb || faddH xs)), (1, ⟨ty, fr, es, l⟩)], 3⟩) Try.func28 (by kernel_rfl) (Nat.le_of_ble_eq_true (by kernel_rfl)) (Nat.le_of_ble_eq_true (by kernel_rfl))
        (fun u hu => ?_) (memOK2 (Nat.le_refl _) rfl (okL_mono noP_below hok)) ?_ (.inr rfl) (fun dead => by kernel_rfl) rfl (fun i b hib => ?_) E w hrel
      · simp only [List.nil_append, List.mem_cons, List.not_mem_nil, or_false] at hu
        rcases hu with rfl | rfl <;> rfl
      · refine To.spineR (z := Zl) sound67 (k := 2) (slots := [0, 1, 5]) (blks := [0, 1, 2]) (vs := [A0, SLX 1 o n c, P2b]) (bs := [flag TY hb, ⟨ty, fr, es, l⟩, bB 0]) (nbB := 3) (by kernel_rfl) (fun dead => sma dead hb o n c ty fr es l) rfl rfl rfl (ae_cons rfl ae_nil) (kst_ok rfl (memOK3 (Nat.le_refl _) rfl (okL_mono noP_below hok) rfl)) (Nat.le_succ 2) ?_
        refine To.seq (by kernel_rfl) (To.seq (by kernel_rfl) (To.run (z := Zl) sound67 (slots := [0, 1, 5, 6]) (blks := [0, 1, 2]) (vs := [A0, SLX 1 o n c, P2b, I 0]) (bs := [flag TY hb, ⟨ty, fr, es, l⟩, bB 0]) (nbB := 3) (fun dead => smb dead hb o n c ty fr es l) rfl rfl rfl ae_nil (kst_ok rfl (memOK3 (Nat.le_refl _) rfl (okL_mono noP_below hok) rfl)) (Nat.le_refl _))
          (To.block (id := 0) (by kernel_rfl) (To.loop (m := n + 1) (by kernel_rfl) ?_) (.inl rfl))) (C := _) (B := smB ⟨ty, fr, es, l⟩ (hb || anyH xs) (sumS xs)) ?_
        · have h0 : smA ⟨ty, fr, es, l⟩ o n c (hb || anyH (xs.take 0)) (sumS (xs.take 0)) ((0 : Nat) : Int) = ⟨[0, 1, 5, 6].zip [A0, SLX 1 o n c, P2b, I 0], [0, 1, 2].zip [flag TY hb, ⟨ty, fr, es, l⟩, bB 0], 3⟩ := by
            unfold smA
            simp only [List.take_zero, anyH, Bool.or_false, sumS]
            rfl
          rw [← h0]
          exact hR
        · refine To.run (z := Zl) sound67 (slots := [4]) (blks := [0, 1]) (vs := [I (faddV xs)]) (bs := [flag TY (hb || faddH xs), ⟨ty, fr, es, l⟩]) (nbB := 3) (fun dead => sme dead (hb || anyH xs) ty fr es l (sumS xs)) rfl ?_ ?_ ?_ (kst_ok rfl (memOK2 (Nat.le_succ 2) rfl (okL_mono noP_below hok))) (Nat.le_refl _)
          · rw [bv_sm c1]; rfl
          · rw [bv_sm c1, Bool.or_assoc]; rfl
          · exact ae_cons (isDBd _) ae_nil
      · rcases get2 hib with ⟨rfl, rfl⟩ | ⟨rfl, rfl⟩
        · exact ⟨rfl, by decide, rfl⟩
        · exact ⟨rfl, by decide, okL_mono noP_below hok⟩
    · subst hx
      have hrun := smnil hb
      cases hq : runF Try.prog S67 Zl 2000 28 [A0, .v (.one .nilsl)] [(0, flag TY hb)] 1 [] with
      | none => rw [hq] at hrun; cases hrun
      | some q =>
        obtain ⟨v', m2, nb', cs'⟩ := q
        rw [hq] at hrun
        simp only [Option.map_some, Option.some.injEq, Prod.mk.injEq] at hrun
        obtain ⟨rfl, hm2, rfl⟩ := hrun
        exact lcl_of_run sound67 hq (m' := [(0, flag TY (hb || faddH []))]) (fun i c hic => by
            obtain ⟨rfl, rfl⟩ := get1 hic
            exact ⟨hm2, Nat.zero_lt_one, rfl⟩) (ae_cons (isDBd _) (ae_cons rfl ae_nil)) rfl (fun a ha => by
            simp only [List.mem_cons, List.not_mem_nil, or_false] at ha
            rcases ha with rfl | rfl <;> rfl) rfl E w hrel
noncomputable def S68 : FuncId → Option SumK := more S67 28 (acSum TY 1 sum8S)
theorem sound68 : Sound Try.prog S68 := sound67.more sumSumB
end Go.Proofs.Ytnabopepomjncaa

/- Numbers of 256 bits (astrolaberef1): the quotient, rounded. -/
namespace Go.Proofs.Ytnabopepomjncaa
open Go.Lr Go.Dg
set_option linter.unusedVariables false
set_option linter.unusedSimpArgs false

theorem b11f (n m : Bool) (a0 a1 a2 a3 a4 a5 a6 a7 d0 d1 d2 d3 d4 d5 d6 d7 : Int) : (runF Try.prog S71 Zl 4000 67 [.v (.agg [.bool n, .int .u64 a0, .int .u64 a1, .int .u64 a2, .int .u64 a3, .int .u64 a4, .int .u64 a5, .int .u64 a6, .int .u64 a7]), .v (.agg [.bool m, .int .u64 d0, .int .u64 d1, .int .u64 d2, .int .u64 d3, .int .u64 d4, .int .u64 d5, .int .u64 d6, .int .u64 d7])] [] 0 [some false]).map (fun r => (r.1, r.2.2.2)) = some (Bg ((n != m) && !zB (dig 8 (fromD [a0, a1, a2, a3, a4, a5, a6, a7] / fromD [d0, d1, d2, d3, d4, d5, d6, d7]))) (dig 8 (fromD [a0, a1, a2, a3, a4, a5, a6, a7] / fromD [d0, d1, d2, d3, d4, d5, d6, d7])), [((!decide (fromD (dig 8 (fromD (dig 8 (fromD [a0, a1, a2, a3, a4, a5, a6, a7] % fromD [d0, d1, d2, d3, d4, d5, d6, d7])) + fromD (dig 8 (fromD [a0, a1, a2, a3, a4, a5, a6, a7] % fromD [d0, d1, d2, d3, d4, d5, d6, d7])))) < fromD [d0, d1, d2, d3, d4, d5, d6, d7])), false), (isDB (dig 8 (fromD (dig 8 (fromD [a0, a1, a2, a3, a4, a5, a6, a7] % fromD [d0, d1, d2, d3, d4, d5, d6, d7])) + fromD (dig 8 (fromD [a0, a1, a2, a3, a4, a5, a6, a7] % fromD [d0, d1, d2, d3, d4, d5, d6, d7])))) && isDB [d0, d1, d2, d3, d4, d5, d6, d7], true), (isDB (dig 8 (fromD [a0, a1, a2, a3, a4, a5, a6, a7] % fromD [d0, d1, d2, d3, d4, d5, d6, d7])) && isDB (dig 8 (fromD [a0, a1, a2, a3, a4, a5, a6, a7] % fromD [d0, d1, d2, d3, d4, d5, d6, d7])), true), (isDB [a0, a1, a2, a3, a4, a5, a6, a7] && (isDB [d0, d1, d2, d3, d4, d5, d6, d7] && (decide (0 < fromD [d0, d1, d2, d3, d4, d5, d6, d7]) && decide (2 * fromD [d0, d1, d2, d3, d4, d5, d6, d7] ≤ P256))), true)]) := by kernel_rfl
theorem b11t (n m : Bool) (a0 a1 a2 a3 a4 a5 a6 a7 d0 d1 d2 d3 d4 d5 d6 d7 : Int) : (runF Try.prog S71 Zl 4000 67 [.v (.agg [.bool n, .int .u64 a0, .int .u64 a1, .int .u64 a2, .int .u64 a3, .int .u64 a4, .int .u64 a5, .int .u64 a6, .int .u64 a7]), .v (.agg [.bool m, .int .u64 d0, .int .u64 d1, .int .u64 d2, .int .u64 d3, .int .u64 d4, .int .u64 d5, .int .u64 d6, .int .u64 d7])] [] 0 [some true]).map (fun r => (r.1, r.2.2.2)) = some (Bg ((n != m) && !zB (dig 8 (fromD (dig 8 (fromD [a0, a1, a2, a3, a4, a5, a6, a7] / fromD [d0, d1, d2, d3, d4, d5, d6, d7])) + fromD [1, 0, 0, 0, 0, 0, 0, 0]))) (dig 8 (fromD (dig 8 (fromD [a0, a1, a2, a3, a4, a5, a6, a7] / fromD [d0, d1, d2, d3, d4, d5, d6, d7])) + fromD [1, 0, 0, 0, 0, 0, 0, 0])), [(isDB (dig 8 (fromD [a0, a1, a2, a3, a4, a5, a6, a7] / fromD [d0, d1, d2, d3, d4, d5, d6, d7])) && isDB [1, 0, 0, 0, 0, 0, 0, 0], true), ((!decide (fromD (dig 8 (fromD (dig 8 (fromD [a0, a1, a2, a3, a4, a5, a6, a7] % fromD [d0, d1, d2, d3, d4, d5, d6, d7])) + fromD (dig 8 (fromD [a0, a1, a2, a3, a4, a5, a6, a7] % fromD [d0, d1, d2, d3, d4, d5, d6, d7])))) < fromD [d0, d1, d2, d3, d4, d5, d6, d7])), true), (isDB (dig 8 (fromD (dig 8 (fromD [a0, a1, a2, a3, a4, a5, a6, a7] % fromD [d0, d1, d2, d3, d4, d5, d6, d7])) + fromD (dig 8 (fromD [a0, a1, a2, a3, a4, a5, a6, a7] % fromD [d0, d1, d2, d3, d4, d5, d6, d7])))) && isDB [d0, d1, d2, d3, d4, d5, d6, d7], true), (isDB (dig 8 (fromD [a0, a1, a2, a3, a4, a5, a6, a7] % fromD [d0, d1, d2, d3, d4, d5, d6, d7])) && isDB (dig 8 (fromD [a0, a1, a2, a3, a4, a5, a6, a7] % fromD [d0, d1, d2, d3, d4, d5, d6, d7])), true), (isDB [a0, a1, a2, a3, a4, a5, a6, a7] && (isDB [d0, d1, d2, d3, d4, d5, d6, d7] && (decide (0 < fromD [d0, d1, d2, d3, d4, d5, d6, d7]) && decide (2 * fromD [d0, d1, d2, d3, d4, d5, d6, d7] ≤ P256))), true)]) := by kernel_rfl
theorem divV_bv {n m : Bool} {A D : List Int} (hA : isD A) (hd : isD D) (h : 0 < fromD D) : (bif (n != m) then -(quoR (fromD A) (fromD D)) else quoR (fromD A) (fromD D)) = divV (bv n A) (bv m D) := by
  have a0 := (fromD_bd hA).1
  unfold divV
  rw [absV_bv hA, absV_bv hd]
  have em : decide (bv m D < 0) = m := by
    cases m
    · exact decide_eq_false (by unfold bv; rw [cond_false]; omega)
    · exact decide_eq_true (by unfold bv; rw [cond_true]; omega)
  rw [em]
  by_cases z : fromD A = 0
  · have q : quoR (fromD A) (fromD D) = 0 := by
      rw [z]; unfold quoR
      rw [Int.zero_emod, Int.zero_ediv, if_neg (by omega)]
    rw [q]
    cases (n != m) <;> unfold sgn <;> simp
  · have en : decide (bv n A < 0) = n := by
      cases n
      · exact decide_eq_false (by unfold bv; rw [cond_false]; omega)
      · exact decide_eq_true (by unfold bv; rw [cond_true]; omega)
    rw [en]
    cases n <;> cases m <;> rfl
def quo8S (args : List LV) : Option (LV × List (Bool × Bool)) :=
  match args with
  | [.v (.agg [.bool n, .int .u64 a0, .int .u64 a1, .int .u64 a2, .int .u64 a3, .int .u64 a4, .int .u64 a5, .int .u64 a6, .int .u64 a7]), .v (.agg [.bool m, .int .u64 d0, .int .u64 d1, .int .u64 d2, .int .u64 d3, .int .u64 d4, .int .u64 d5, .int .u64 d6, .int .u64 d7])] => some (bigL (divV (bv n [a0, a1, a2, a3, a4, a5, a6, a7]) (bv m [d0, d1, d2, d3, d4, d5, d6, d7])), [(isDB [a0, a1, a2, a3, a4, a5, a6, a7] && (isDB [d0, d1, d2, d3, d4, d5, d6, d7] && (decide (0 < fromD [d0, d1, d2, d3, d4, d5, d6, d7]) && decide (fromD [d0, d1, d2, d3, d4, d5, d6, d7] ≤ 4611686018427387904))), true)])
  | _ => none
theorem sumDivB : SumOK Try.prog 67 (pureSum quo8S) := by
  refine pureSum_run (z := Zl) sound71 (own_of sound71 Try.func67 (by kernel_rfl)) fun args v cs hF hc => ?_
  unfold quo8S at hF
  split at hF
  · rename_i n a0 a1 a2 a3 a4 a5 a6 a7 m d0 d1 d2 d3 d4 d5 d6 d7
    cases hF
    have hq := hc _ (List.mem_singleton.2 rfl)
    simp only [Bool.and_eq_true, decide_eq_true_eq, isDB_iff] at hq
    obtain ⟨hA, hd, hD, hD2⟩ := hq
    have hb := fromD_bd hA
    have P := P256_big
    have hk := divV_bv (n := n) (m := m) hA hd hD
    have r0 := Int.emod_nonneg (fromD [a0, a1, a2, a3, a4, a5, a6, a7]) (show fromD [d0, d1, d2, d3, d4, d5, d6, d7] ≠ 0 by omega)
    have r1 := Int.emod_lt_of_pos (fromD [a0, a1, a2, a3, a4, a5, a6, a7]) hD
    have q0 : 0 ≤ fromD [a0, a1, a2, a3, a4, a5, a6, a7] / fromD [d0, d1, d2, d3, d4, d5, d6, d7] := Int.ediv_nonneg hb.1 (by omega)
    have q1 : fromD [a0, a1, a2, a3, a4, a5, a6, a7] / fromD [d0, d1, d2, d3, d4, d5, d6, d7] ≤ fromD [a0, a1, a2, a3, a4, a5, a6, a7] := Int.ediv_le_self _ hb.1
    have e1 := fromD_dig 8 (v := fromD [a0, a1, a2, a3, a4, a5, a6, a7] % fromD [d0, d1, d2, d3, d4, d5, d6, d7]) r0 (by rw [pw8]; omega)
    have e2 := fromD_dig 8 (v := fromD [a0, a1, a2, a3, a4, a5, a6, a7] % fromD [d0, d1, d2, d3, d4, d5, d6, d7] + fromD [a0, a1, a2, a3, a4, a5, a6, a7] % fromD [d0, d1, d2, d3, d4, d5, d6, d7]) (by omega) (by rw [pw8]; omega)
    have e3 := fromD_dig 8 (v := fromD [a0, a1, a2, a3, a4, a5, a6, a7] / fromD [d0, d1, d2, d3, d4, d5, d6, d7]) q0 (by rw [pw8]; exact Int.lt_of_le_of_lt q1 hb.2)
    have iA : isDB [a0, a1, a2, a3, a4, a5, a6, a7] = true := isDB_iff.2 hA
    have iD : isDB [d0, d1, d2, d3, d4, d5, d6, d7] = true := isDB_iff.2 hd
    have i0 : (decide (0 < fromD [d0, d1, d2, d3, d4, d5, d6, d7]) && decide (2 * fromD [d0, d1, d2, d3, d4, d5, d6, d7] ≤ P256)) = true := by rw [decide_eq_true hD, decide_eq_true (show 2 * fromD [d0, d1, d2, d3, d4, d5, d6, d7] ≤ P256 by omega)]; rfl
    by_cases h : fromD [a0, a1, a2, a3, a4, a5, a6, a7] % fromD [d0, d1, d2, d3, d4, d5, d6, d7] ≥ fromD [d0, d1, d2, d3, d4, d5, d6, d7] - fromD [a0, a1, a2, a3, a4, a5, a6, a7] % fromD [d0, d1, d2, d3, d4, d5, d6, d7]
    · have r := b11t n m a0 a1 a2 a3 a4 a5 a6 a7 d0 d1 d2 d3 d4 d5 d6 d7
      rw [e1, e2, e3, iA, iD, i0, isDBd, isDBd, isDBd, dmade] at r
      have eq : quoR (fromD [a0, a1, a2, a3, a4, a5, a6, a7]) (fromD [d0, d1, d2, d3, d4, d5, d6, d7]) = fromD [a0, a1, a2, a3, a4, a5, a6, a7] / fromD [d0, d1, d2, d3, d4, d5, d6, d7] + fromD [1, 0, 0, 0, 0, 0, 0, 0] := by unfold quoR; rw [if_pos h]; rfl
      rw [← eq] at r
      have lt : quoR (fromD [a0, a1, a2, a3, a4, a5, a6, a7]) (fromD [d0, d1, d2, d3, d4, d5, d6, d7]) < P256 := by
        rw [eq]
        show fromD [a0, a1, a2, a3, a4, a5, a6, a7] / fromD [d0, d1, d2, d3, d4, d5, d6, d7] + 1 < P256
        by_cases o : fromD [d0, d1, d2, d3, d4, d5, d6, d7] = 1
        · exfalso; rw [o] at r0 r1 h; omega
        · have t : fromD [a0, a1, a2, a3, a4, a5, a6, a7] / fromD [d0, d1, d2, d3, d4, d5, d6, d7] * 2 ≤ fromD [a0, a1, a2, a3, a4, a5, a6, a7] / fromD [d0, d1, d2, d3, d4, d5, d6, d7] * fromD [d0, d1, d2, d3, d4, d5, d6, d7] := Int.mul_le_mul_of_nonneg_left (by omega) q0
          have t2 := Int.ediv_mul_le (fromD [a0, a1, a2, a3, a4, a5, a6, a7]) (show fromD [d0, d1, d2, d3, d4, d5, d6, d7] ≠ 0 by omega)
          have t3 : fromD [a0, a1, a2, a3, a4, a5, a6, a7] < P256 := hb.2
          omega
      have ge : 0 ≤ quoR (fromD [a0, a1, a2, a3, a4, a5, a6, a7]) (fromD [d0, d1, d2, d3, d4, d5, d6, d7]) := by rw [eq]; show 0 ≤ fromD [a0, a1, a2, a3, a4, a5, a6, a7] / fromD [d0, d1, d2, d3, d4, d5, d6, d7] + 1; omega
      rw [bvdig _ ge lt, hk, decide_eq_false (show ¬ fromD [a0, a1, a2, a3, a4, a5, a6, a7] % fromD [d0, d1, d2, d3, d4, d5, d6, d7] + fromD [a0, a1, a2, a3, a4, a5, a6, a7] % fromD [d0, d1, d2, d3, d4, d5, d6, d7] < fromD [d0, d1, d2, d3, d4, d5, d6, d7] by omega)] at r
      exact ⟨4000, _, _, r, by simp [isDB]⟩
    · have r := b11f n m a0 a1 a2 a3 a4 a5 a6 a7 d0 d1 d2 d3 d4 d5 d6 d7
      rw [e1, e2, iA, iD, i0, isDBd, isDBd, dmade] at r
      have eq : quoR (fromD [a0, a1, a2, a3, a4, a5, a6, a7]) (fromD [d0, d1, d2, d3, d4, d5, d6, d7]) = fromD [a0, a1, a2, a3, a4, a5, a6, a7] / fromD [d0, d1, d2, d3, d4, d5, d6, d7] := by unfold quoR; rw [if_neg h]
      rw [← eq] at r q0
      rw [bvdig _ q0 (by rw [eq]; exact Int.lt_of_le_of_lt q1 hb.2), hk, decide_eq_true (show fromD [a0, a1, a2, a3, a4, a5, a6, a7] % fromD [d0, d1, d2, d3, d4, d5, d6, d7] + fromD [a0, a1, a2, a3, a4, a5, a6, a7] % fromD [d0, d1, d2, d3, d4, d5, d6, d7] < fromD [d0, d1, d2, d3, d4, d5, d6, d7] by omega)] at r
      exact ⟨4000, _, _, r, by simp⟩
  · cases hF
noncomputable def S72 : FuncId → Option SumK := more (more S71 67 (pureSum quo8S)) 28 (acSum TY 1 sum8S)
theorem sound72 : Sound Try.prog S72 := (sound71.more sumDivB).more sumSumB
end Go.Proofs.Ytnabopepomjncaa

/- What the laws of scalars and roots say of the operations: plain. -/
namespace Go.Proofs.Ytnabopepomjncaa
open Go.Lr
set_option linter.unusedVariables false

theorem rnd_shift (t : Int) (n m : Nat) : rndV (t * pow2 n) (n + m) = rndV t m := by
  have hp := pow2_pos n
  have key : ∀ x : Int, 0 ≤ x → (x * pow2 n + halfP (n + m)) / pow2 (n + m) = (x + halfP m) / pow2 m := by
    intro x hx
    cases m with
    | zero =>
      have h1 : halfP n < pow2 n := by rcases (halfP_two n).2 with ⟨rfl, h, h'⟩ | h <;> omega
      have h2 := (halfP_le n).1
      show (x * pow2 n + halfP n) / pow2 n = (x + 0) / 1
      rw [Int.add_comm, Int.add_mul_ediv_right _ _ (by omega), Int.ediv_eq_zero_of_lt h2 h1]
      omega
    | succ m =>
      have e1 : halfP (n + (m + 1)) = pow2 n * pow2 m := pow2_add n m
      have e2 : x * pow2 n + pow2 n * pow2 m = pow2 n * (x + pow2 m) := by grind
      rw [e1, e2, pow2_add]
      exact Int.mul_ediv_mul_of_pos _ _ hp
  by_cases h : 0 ≤ t
  · rw [rnd_pos (Int.mul_nonneg h (by omega)), rnd_pos h, key t h]
  · have : t * pow2 n ≤ 0 := by have := Int.mul_neg_of_neg_of_pos (show t < 0 by omega) hp; omega
    rw [rnd_neg this, rnd_neg (by omega), ← Int.neg_mul, key (-t) (by omega)]
theorem rnd_abs (t : Int) (s : Nat) : absV (rndV t s) ≤ absV t := by
  have hp := pow2_pos s
  have h1 : halfP s < pow2 s := by rcases (halfP_two s).2 with ⟨rfl, h, h'⟩ | h <;> omega
  have h2 := (halfP_le s).1
  have key : ∀ x : Int, 0 ≤ x → 0 ≤ (x + halfP s) / pow2 s ∧ (x + halfP s) / pow2 s ≤ x := by
    intro x hx
    refine ⟨Int.ediv_nonneg (by omega) (by omega), ?_⟩
    have h3 : x * 1 ≤ x * pow2 s := Int.mul_le_mul_of_nonneg_left (by omega) hx
    have h4 : (x + halfP s) / pow2 s < x + 1 := Int.ediv_lt_of_lt_mul hp (by have e : (x + 1) * pow2 s = x * pow2 s + pow2 s := by grind
                                                                             omega)
    omega
  by_cases h : 0 ≤ t
  · rw [rnd_pos h, absV_pos h]
    have := key t h
    rw [absV_pos this.1]; exact this.2
  · rw [rnd_neg (by omega), absV_neg (a := t) (by omega)]
    have := key (-t) (by omega)
    rw [absV_negate, absV_pos this.1]; exact this.2
theorem rnd_in {t : Int} (s : Nat) (h0 : -1152921504606846976 ≤ t) (h1 : t ≤ 1152921504606846976) : -1152921504606846976 ≤ rndV t s ∧ rndV t s ≤ 1152921504606846976 := by
  have h := rnd_abs t s
  unfold absV at h
  split at h <;> split at h <;> omega

theorem mul_comm' (a b s : Int) : mulV a b s = mulV b a s := by unfold mulV; rw [Int.mul_comm]
theorem md_comm (a b d : Int) : mulDivV a b d = mulDivV b a d := by unfold mulDivV; rw [Int.mul_comm]
theorem sub_anti (a b : Int) : subV a b = -subV b a := by
  unfold subV
  rw [← sat_odd]; congr 1; omega
theorem mul_mono {a b d s : Int} (h : a ≤ b) (hd : 0 ≤ d) : mulV a d s ≤ mulV b d s := by
  unfold mulV rndS
  split
  · exact Int.le_refl _
  · split
    · exact Int.le_refl _
    · refine sat_mono (rnd_mono ?_ _)
      have h1 := sat_mono h
      have h2 : 0 ≤ satV d := by have := sat_mono hd; exact this
      exact Int.mul_le_mul_of_nonneg_right h1 h2
theorem or_f {a b : Bool} (h : (a || b) = false) : a = false ∧ b = false := by cases a <;> cases b <;> simp_all
theorem mul_ok {a b s : Int} (h : mulH a b s = false) : satV a = a ∧ satV b = b ∧ 0 ≤ s ∧ s ≤ 120 ∧ mulV a b s = rndV (a * b) s.toNat ∧ -1152921504606846976 ≤ rndV (a * b) s.toNat ∧ rndV (a * b) s.toNat ≤ 1152921504606846976 := by
  unfold mulH rndH at h
  obtain ⟨h1, h⟩ := or_f h
  obtain ⟨h2, h⟩ := or_f h
  obtain ⟨h3, h⟩ := or_f h
  obtain ⟨h4, h5⟩ := or_f h
  have a1 := satH_iff.1 h1
  have a2 := satH_iff.1 h2
  have e1 := sat_in a1.1 a1.2
  have e2 := sat_in a2.1 a2.2
  rw [e1, e2] at h5
  have a5 := satH_iff.1 h5
  simp only [decide_eq_false_iff_not] at h3 h4
  refine ⟨e1, e2, by omega, by omega, ?_, a5⟩
  unfold mulV rndS
  rw [e1, e2, if_neg h3, if_neg h4, sat_in a5.1 a5.2]
theorem div_undo {a : Int} (h : mulH a 1048576 0 = false) : divPV (mulV a 1048576 0) 1048576 0 = a := by
  have ha : satH a = false := (or_f h).1
  obtain ⟨e1, -, -, -, e2, b1, b2⟩ := mul_ok h
  rw [rnd0] at e2 b1 b2
  rw [e2]
  unfold divPV byV
  rw [if_neg (by decide), if_neg (by decide), sat_in b1 b2, show satV 1048576 = 1048576 by decide, if_neg (by decide), show pow2 (Int.toNat 0) = 1 from rfl, Int.mul_one, div_exact _ _ (by decide)]
  exact e1

/-- FxHalves -/
theorem half_mul {t : Int} (h0 : -1152921504606846976 ≤ t) (h1 : t ≤ 1152921504606846976) (n m : Nat) (hn : n + m = 30) (hs : satV (pow2 n) = pow2 n) :
    mulV t (pow2 n) 30 = rndV t m ∧ mulH t (pow2 n) 30 = false := by
  have e := rnd_shift t n m
  rw [hn] at e
  have b := rnd_in m h0 h1
  have hs2 : satH (pow2 n) = false := by
    have b2 := sat_bd (pow2 n)
    rw [hs] at b2
    exact satH_in b2.1 b2.2
  refine ⟨?_, ?_⟩
  · unfold mulV rndS
    rw [if_neg (by decide), if_neg (by decide), sat_in h0 h1, hs, show Int.toNat 30 = 30 from rfl, e, sat_in b.1 b.2]
  · unfold mulH rndH
    rw [sat_in h0 h1, hs, show Int.toNat 30 = 30 from rfl, e, satH_in b.1 b.2, satH_in h0 h1, hs2]
    decide
theorem half_one {t : Int} (h0 : -1152921504606846976 ≤ t) (h1 : t ≤ 1152921504606846976) (k : Int) (k0 : 0 ≤ k) (k1 : k ≤ 120) :
    mulV t 1 k = rndV t k.toNat ∧ mulH t 1 k = false := by
  have b := rnd_in k.toNat h0 h1
  have e1 : satV 1 = 1 := by decide
  refine ⟨?_, ?_⟩
  · unfold mulV rndS
    rw [if_neg (by omega), if_neg (by omega), sat_in h0 h1, e1, Int.mul_one, sat_in b.1 b.2]
  · unfold mulH rndH
    rw [sat_in h0 h1, e1, Int.mul_one, satH_in b.1 b.2, satH_in h0 h1, decide_eq_false (show ¬ k < 0 by omega), decide_eq_false (show ¬ k > 120 by omega)]
    decide
theorem half_self {t : Int} (h0 : -1152921504606846976 ≤ t) (h1 : t ≤ 1152921504606846976) (hne : t ≠ 0) : divPV t t 30 = 1073741824 ∧ divPH t t 30 = false := by
  have e := div_exact (pow2 30) t hne
  rw [Int.mul_comm, show pow2 30 = 1073741824 from rfl] at e
  have hf : (t == 0) = false := by simpa using hne
  refine ⟨?_, ?_⟩
  · unfold divPV byV
    rw [if_neg (by decide), if_neg (by decide), sat_in h0 h1, if_neg hne, show pow2 (Int.toNat 30) = 1073741824 from rfl, e]
    decide
  · unfold divPH byH
    rw [sat_in h0 h1, satH_in h0 h1, show pow2 (Int.toNat 30) = 1073741824 from rfl, e, hf]
    decide
theorem half_seven {t : Int} (h0 : -1152921504606846976 ≤ t) (h1 : t ≤ 1152921504606846976) : mulDivV t 7 7 = t ∧ mulDivH t 7 7 = false := by
  have e1 : satV 7 = 7 := by decide
  have e := div_exact t 7 (by decide)
  refine ⟨?_, ?_⟩
  · unfold mulDivV byV
    rw [sat_in h0 h1, e1, if_neg (by decide), e, sat_in h0 h1]
  · unfold mulDivH byH
    rw [sat_in h0 h1, e1, satH_in h0 h1, e, satH_in h0 h1]
    decide

/-- RootRises -/
theorem sqrt_mono {a b : Int} (h0 : 0 ≤ a) (h : a ≤ b) : sqrtV a ≤ sqrtV b := by
  have h1 := sat_mono h0
  have h2 := sat_mono h
  have h3 := sat_bd a
  have h4 := sat_bd b
  have h1' : 0 ≤ satV a := h1
  unfold sqrtV
  rw [if_neg (by omega), if_neg (by omega)]
  exact sat_mono (root_mono (by omega) (by omega) (by omega))
theorem recip_in {a : Int} (h0 : 1048576 ≤ a) (h1 : a ≤ 1099511627776) :
    divPV 1073741824 a 30 = quoR 1152921504606846976 a ∧ divPH 1073741824 a 30 = false ∧ 1048576 ≤ quoR 1152921504606846976 a ∧ quoR 1152921504606846976 a ≤ 1099511627776 ∧
    -a ≤ 2 * (quoR 1152921504606846976 a * a - 1152921504606846976) ∧ 2 * (quoR 1152921504606846976 a * a - 1152921504606846976) ≤ a := by
  have hb := quo_bd (a := 1152921504606846976) (b := a) (by decide) (by omega)
  have hd := div_pos (a := 1152921504606846976) (b := a) (by decide) (by omega)
  generalize quoR 1152921504606846976 a = q at *
  have q0 : 1048576 ≤ q := by
    rcases Int.lt_or_le q 1048576 with h | h
    · exfalso
      have : q * a ≤ 1048575 * a := Int.mul_le_mul_of_nonneg_right (by omega) (by omega)
      omega
    · exact h
  have q1 : q ≤ 1099511627776 := by
    rcases Int.lt_or_le 1099511627776 q with h | h
    · exfalso
      have : 1099511627777 * a ≤ q * a := Int.mul_le_mul_of_nonneg_right (by omega) (by omega)
      omega
    · exact h
  have e1 : satV 1073741824 = 1073741824 := by decide
  have e2 : satV a = a := sat_in (by omega) (by omega)
  have e3 : (1073741824 : Int) * pow2 (Int.toNat 30) = 1152921504606846976 := by decide
  have e4 : satV q = q := sat_in (by omega) (by omega)
  refine ⟨?_, ?_, q0, q1, hb⟩
  · unfold divPV byV
    rw [if_neg (by decide), if_neg (by decide), e1, e2, e3, if_neg (by omega), hd, e4]
  · unfold divPH byH
    have hne : (a == 0) = false := by simp; omega
    rw [e1, e2, e3, hd, satH_in (a := a) (by omega) (by omega), satH_in (a := q) (by omega) (by omega), hne]
    decide
theorem recip_recip {a : Int} (h0 : 1048576 ≤ a) (h1 : a ≤ 1099511627776) :
    -1048576 ≤ divPV 1073741824 (divPV 1073741824 a 30) 30 - a ∧ divPV 1073741824 (divPV 1073741824 a 30) 30 - a ≤ 1048576 ∧ divPH 1073741824 a 30 = false ∧ divPH 1073741824 (divPV 1073741824 a 30) 30 = false ∧
    -1073741824 ≤ divPV 1073741824 (divPV 1073741824 a 30) 30 ∧ divPV 1073741824 (divPV 1073741824 a 30) 30 ≤ 1099511627776 := by
  obtain ⟨e1, f1, a0, a1, b0, b1⟩ := recip_in h0 h1
  rw [e1]
  generalize quoR 1152921504606846976 a = R at *
  obtain ⟨e2, f2, c0, c1, d0, d1⟩ := recip_in a0 a1
  rw [e2]
  generalize quoR 1152921504606846976 R = T at *
  refine ⟨?_, ?_, f1, f2, by omega, c1⟩
  · rcases Int.lt_or_le (T - a) (-1048576) with h | h
    · exfalso
      have h5 : (T - a) * R ≤ (-1048577) * R := Int.mul_le_mul_of_nonneg_right (by omega) (by omega)
      have h6 : (T - a) * R = T * R - R * a := by grind
      omega
    · exact h
  · rcases Int.lt_or_le 1048576 (T - a) with h | h
    · exfalso
      have h5 : 1048577 * R ≤ (T - a) * R := Int.mul_le_mul_of_nonneg_right (by omega) (by omega)
      have h6 : (T - a) * R = T * R - R * a := by grind
      omega
    · exact h

/-- RootHolds -/
theorem sq_root {a : Int} (h0 : 0 ≤ a) (h1 : a ≤ 35184372088832) : -32768 ≤ sqrtV (mulV a a 30) - a ∧ sqrtV (mulV a a 30) - a ≤ 32768 := by
  have hs : satV a = a := sat_in (by omega) (by omega)
  have hq0 : 0 ≤ a * a := Int.mul_nonneg h0 h0
  have hq1 : a * a ≤ 1237940039285380274899124224 := by
    have : a * a ≤ 35184372088832 * 35184372088832 := Int.mul_le_mul h1 h1 h0 (by decide)
    omega
  have hb := rnd_bd (a * a) 30
  rw [show pow2 30 = 1073741824 from rfl] at hb
  have hm : mulV a a 30 = satV (rndV (a * a) 30) := by
    unfold mulV rndS
    rw [if_neg (by decide), if_neg (by decide), hs]; rfl
  rw [hm]
  generalize rndV (a * a) 30 = m at *
  have m0 : 0 ≤ m := by omega
  have m1 : m ≤ 1152921504606846976 := by omega
  rw [sat_in (by omega) m1]
  unfold sqrtV
  rw [sat_in (by omega) m1, if_neg (by omega)]
  have n0 : 0 ≤ m * 1073741824 := by omega
  have n1 : m * 1073741824 < 340282366920938463463374607431768211456 := by omega
  have r1 : rootW (m * 1073741824) ≤ a + 32768 := by
    refine root_le n0 n1 (by omega) ?_
    have e : (a + 32768) * (a + 32768) + (a + 32768) = a * a + 65537 * a + 1073774592 := by grind
    omega
  have r2 : a - 32768 ≤ rootW (m * 1073741824) := by
    refine root_ge n0 n1 ?_
    by_cases h : a ≤ 32768
    · exact .inl (by omega)
    · right
      have e : (a - 32768) * (a - 32768) - (a - 32768) = a * a - 65537 * a + 1073774592 := by grind
      omega
  have r0 := (rootW_spec n0 n1).1
  rw [sat_in (by omega) (by omega)]
  omega
theorem sqS2 (x y : Int) : sqS (List.take 64 [x, y]) = satV x * satV x + satV y * satV y := by
  show satV x * satV x + (satV y * satV y + 0) = _
  omega
theorem hyp_swap (x y : Int) : hypV [y, x] = hypV [x, y] := by
  unfold hypV
  rw [sqS2, sqS2, Int.add_comm]
theorem hyp_neg (x y : Int) : hypV [-x, y] = hypV [x, y] := by
  unfold hypV
  rw [sqS2, sqS2, sat_odd]
  congr 2
  have : -satV x * -satV x = satV x * satV x := by grind
  omega
theorem fabs_sat {x : Int} (h0 : -1152921504606846976 ≤ x) (h1 : x ≤ 1152921504606846976) : fabsV x = absV x := by
  unfold fabsV absV; (repeat' split) <;> omega
theorem sq_nn (a : Int) : 0 ≤ a * a := by
  have h : 0 ≤ a ∨ a ≤ 0 := by omega
  rcases h with h | h
  · exact Int.mul_nonneg h h
  · exact Int.mul_nonneg_of_nonpos_of_nonpos h h
theorem absV_sq (a : Int) : absV a * absV a = a * a := by rw [← absV_mul, absV_pos (sq_nn a)]
theorem hyp_bd {x y : Int} (x0 : -1152921504606846976 ≤ x) (x1 : x ≤ 1152921504606846976) (y0 : -1152921504606846976 ≤ y) (y1 : y ≤ 1152921504606846976) :
    fabsV x ≤ hypV [x, y] ∧ fabsV y ≤ hypV [x, y] ∧ hypV [x, y] ≤ faddV [fabsV x, fabsV y] := by
  rw [fabs_sat x0 x1, fabs_sat y0 y1]
  unfold hypV faddV
  rw [sqS2, sat_in x0 x1, sat_in y0 y1]
  have ax : 0 ≤ absV x ∧ absV x ≤ 1152921504606846976 := by unfold absV; split <;> omega
  have ay : 0 ≤ absV y ∧ absV y ≤ 1152921504606846976 := by unfold absV; split <;> omega
  have es : sumS [absV x, absV y] = absV x + absV y := by
    simp only [sumS]
    rw [sat_in (a := absV x) (by omega) ax.2, sat_in (a := absV y) (by omega) ay.2]
    omega
  rw [es, ← absV_sq x, ← absV_sq y]
  generalize absV x = u at *
  generalize absV y = v at *
  obtain ⟨u0, u1⟩ := ax
  obtain ⟨v0, v1⟩ := ay
  have hu : 0 ≤ u * u := Int.mul_nonneg u0 u0
  have hv : 0 ≤ v * v := Int.mul_nonneg v0 v0
  have hu2 : u * u ≤ 1152921504606846976 * 1152921504606846976 := Int.mul_le_mul u1 u1 u0 (by decide)
  have hv2 : v * v ≤ 1152921504606846976 * 1152921504606846976 := Int.mul_le_mul v1 v1 v0 (by decide)
  have huv : 0 ≤ u * v := Int.mul_nonneg u0 v0
  have a1 : u ≤ rootW (u * u + v * v) := root_ge (by omega) (by omega) (by omega)
  have a2 : v ≤ rootW (u * u + v * v) := root_ge (by omega) (by omega) (by omega)
  have a3 : rootW (u * u + v * v) ≤ u + v := by
    refine root_le (by omega) (by omega) (by omega) ?_
    have e : (u + v) * (u + v) = u * u + v * v + 2 * (u * v) := by grind
    omega
  refine ⟨?_, ?_, sat_mono a3⟩
  · have := sat_mono a1; rwa [sat_in (by omega) u1] at this
  · have := sat_mono a2; rwa [sat_in (by omega) v1] at this
end Go.Proofs.Ytnabopepomjncaa

/- Numbers of 256 bits (astrolaberef1): Dot. -/
namespace Go.Proofs.Ytnabopepomjncaa
open Go.Lr Go.Dg
set_option linter.unusedVariables false
set_option linter.unusedSimpArgs false

abbrev bq (v : Int) : Int := bv (decide (v < 0)) (dig 8 (absV v))
abbrev addAsk (v w : Int) : Bool := isDB (dig 8 (absV v)) && (isDB (dig 8 (absV w)) && decide (fromD (dig 8 (absV v)) + fromD (dig 8 (absV w)) < P256))
abbrev mulAsk (v w : Int) : Bool := isDB (dig 8 (absV v)) && (isDB (dig 8 (absV w)) && decide (fromD (dig 8 (absV v)) * fromD (dig 8 (absV w)) < P256))
abbrev rndAsk (v s : Int) : Bool := isDB (dig 8 (absV v)) && (decide (fromD (dig 8 (absV v)) + 1329227995784915872903807060280344576 < P256) && ((decide (1 ≤ s) || (!decide (v < 0) || !zB (dig 8 (absV v)))) && (decide (0 ≤ s) && decide (s ≤ 120))))
theorem mul_sm {v w : Int} (h : absV v ≤ 1152921504606846976) (g : absV w ≤ 1152921504606846976) : mulAsk v w = true := by
  have := P256_big
  have h0 := absV_nn v
  have g0 := absV_nn w
  have e := Int.mul_le_mul h g g0 (by omega)
  unfold mulAsk
  rw [isDBd, isDBd, fD_sm (by omega), fD_sm (by omega), Bool.true_and, Bool.true_and, decide_eq_true_eq]; omega
theorem rnd_sm8 {v s : Int} (h : absV v ≤ 340282366920938463463374607431768211456) (h0 : 0 ≤ s) (h1 : s ≤ 120) : rndAsk v s = true := by
  have := P256_big
  unfold rndAsk
  rw [isDBd, fD_sm h, zB_big v (by omega), decide_eq_true h0, decide_eq_true h1, decide_eq_true (show absV v + 1329227995784915872903807060280344576 < P256 by omega)]
  by_cases q : v < 0
  · rw [decide_eq_false (show ¬ v = 0 by omega)]; simp
  · rw [decide_eq_false q]; simp

noncomputable def dtBd : Code := c2 (c2 (c2 (bodyF Try.prog 31)))
theorem dt_two_a (dead : Nat → Value) (hb : Bool) (s : Int) (oa na ca ob nn cb : Nat) (ty : TypeId) (fr : Nat × Nat) (es : Nat) (l : List At) (ty2 : TypeId) (fr2 : Nat × Nat) (es2 : Nat) (l2 : List At) : projS [0,1,2,3,9] [0,1,2,3] (execL Try.prog S68 Zl 400 (spineL 3 (bodyF Try.prog 31)) (Kst.st ⟨argsL 0 [A0, I s, SLX 1 oa na ca, SLX 2 ob nn cb], [(0, flag TY hb), (1, ⟨ty, fr, es, l⟩), (2, ⟨ty2, fr2, es2, l2⟩)], 3⟩ 59 dead (ff 4 []))) = some (Ex.normal, [A0, I s, SLX 1 oa na ca, SLX 2 ob nn cb, P3], [some (flag TY hb), some ⟨ty, fr, es, l⟩, some ⟨ty2, fr2, es2, l2⟩, some (bB 0)], [(i64B 0, true), (decide (s > 120), false), (decide (s < 0), false), (decide (s < 0), false), (decide (s < 0), false)]) := by kernel_rfl
theorem dt_two_b (dead : Nat → Value) (hb : Bool) (s : Int) (oa na ca ob nn cb : Nat) (ty : TypeId) (fr : Nat × Nat) (es : Nat) (l : List At) (ty2 : TypeId) (fr2 : Nat × Nat) (es2 : Nat) (l2 : List At) : projS [0,1,2,3,9,10] [0,1,2,3] (exec Try.prog S68 Zl 400 (.code (c1 (c1 dtBd))) (Kst.st ⟨[(0, A0), (1, I s), (2, SLX 1 oa na ca), (3, SLX 2 ob nn cb), (9, P3)], [(0, flag TY hb), (1, ⟨ty, fr, es, l⟩), (2, ⟨ty2, fr2, es2, l2⟩), (3, bB 0)], 4⟩ 59 dead [])) = some (Ex.normal, [A0, I s, SLX 1 oa na ca, SLX 2 ob nn cb, P3, I 0], [some (flag TY hb), some ⟨ty, fr, es, l⟩, some ⟨ty2, fr2, es2, l2⟩, some (bB 0)], []) := by kernel_rfl
theorem dt_two_c (dead : Nat → Value) (hb : Bool) (s : Int) (oa na ca ob nn cb : Nat) (ty : TypeId) (fr : Nat × Nat) (es : Nat) (l : List At) (ty2 : TypeId) (fr2 : Nat × Nat) (es2 : Nat) (l2 : List At) (v i : Int) : projS [0,1,2,3,9,10] [0,1,2,3] (exec Try.prog S68 Zl 400 (.code (c1 (c1 (c2 (c1 dtBd))))) (Kst.st ⟨[(0, A0), (1, I s), (2, SLX 1 oa na ca), (3, SLX 2 ob nn cb), (9, P3), (10, I i)], [(0, flag TY hb), (1, ⟨ty, fr, es, l⟩), (2, ⟨ty2, fr2, es2, l2⟩), (3, bB v)], 4⟩ 59 dead (tt 9 []))) = some (Ex.normal, [A0, I s, SLX 1 oa na ca, SLX 2 ob nn cb, P3, I (wr .i64 (i + 1))], [some (flag TY (hb || satH (intAt l (oa + i.toNat * 1)) || satH (intAt l2 (ob + i.toNat * 1)))), some ⟨ty, fr, es, l⟩, some ⟨ty2, fr2, es2, l2⟩, some (bB (bq v + bq (bq (satV (intAt l (oa + i.toNat * 1))) * bq (satV (intAt l2 (ob + i.toNat * 1))))))], [(addAsk v (bq (satV (intAt l (oa + i.toNat * 1))) * bq (satV (intAt l2 (ob + i.toNat * 1)))), true), (mulAsk (satV (intAt l (oa + i.toNat * 1))) (satV (intAt l2 (ob + i.toNat * 1))), true), (i64B (satV (intAt l2 (ob + i.toNat * 1))), true), (isIntAt IntKind.i64 l2 (ob + i.toNat * 1), true), (decide (0 ≤ i) && decide (i < (nn : Int)), true), (i64B (satV (intAt l (oa + i.toNat * 1))), true), (isIntAt IntKind.i64 l (oa + i.toNat * 1), true), (decide (0 ≤ i) && decide (i < (na : Int)), true), (decide (i < 100), true), (decide (i < (nn : Int)), true), (decide (i < (nn : Int)), true), (decide (i < (nn : Int)), true), (decide (i < (na : Int)), true), (decide (i < (na : Int)), true), (decide (i < (na : Int)), true), (decide (i < (na : Int)), true), (decide (i < (na : Int)), true)]) := by kernel_rfl
theorem dt_two_f1 (dead : Nat → Value) (hb : Bool) (s : Int) (oa na ca ob nn cb : Nat) (ty : TypeId) (fr : Nat × Nat) (es : Nat) (l : List At) (ty2 : TypeId) (fr2 : Nat × Nat) (es2 : Nat) (l2 : List At) (v i : Int) : projS [0,1,9] [0,1,2,3] (exec Try.prog S68 Zl 400 (.code (c1 (c1 (c2 (c1 dtBd))))) (Kst.st ⟨[(0, A0), (1, I s), (2, SLX 1 oa na ca), (3, SLX 2 ob nn cb), (9, P3), (10, I i)], [(0, flag TY hb), (1, ⟨ty, fr, es, l⟩), (2, ⟨ty2, fr2, es2, l2⟩), (3, bB v)], 4⟩ 59 dead (ff 5 []))) = some (Ex.exit 0, [A0, I s, P3], [some (flag TY hb), some ⟨ty, fr, es, l⟩, some ⟨ty2, fr2, es2, l2⟩, some (bB v)], [(decide (i < (na : Int)), false), (decide (i < (na : Int)), false), (decide (i < (na : Int)), false), (decide (i < (na : Int)), false), (decide (i < (na : Int)), false)]) := by kernel_rfl
theorem dt_two_f2 (dead : Nat → Value) (hb : Bool) (s : Int) (oa na ca ob nn cb : Nat) (ty : TypeId) (fr : Nat × Nat) (es : Nat) (l : List At) (ty2 : TypeId) (fr2 : Nat × Nat) (es2 : Nat) (l2 : List At) (v i : Int) : projS [0,1,9] [0,1,2,3] (exec Try.prog S68 Zl 400 (.code (c1 (c1 (c2 (c1 dtBd))))) (Kst.st ⟨[(0, A0), (1, I s), (2, SLX 1 oa na ca), (3, SLX 2 ob nn cb), (9, P3), (10, I i)], [(0, flag TY hb), (1, ⟨ty, fr, es, l⟩), (2, ⟨ty2, fr2, es2, l2⟩), (3, bB v)], 4⟩ 59 dead (tt 5 (ff 3 [])))) = some (Ex.exit 0, [A0, I s, P3], [some (flag TY hb), some ⟨ty, fr, es, l⟩, some ⟨ty2, fr2, es2, l2⟩, some (bB v)], [(decide (i < (nn : Int)), false), (decide (i < (nn : Int)), false), (decide (i < (nn : Int)), false), (decide (i < (na : Int)), true), (decide (i < (na : Int)), true), (decide (i < (na : Int)), true), (decide (i < (na : Int)), true), (decide (i < (na : Int)), true)]) := by kernel_rfl
theorem dt_two_f3 (dead : Nat → Value) (hb : Bool) (s : Int) (oa na ca ob nn cb : Nat) (ty : TypeId) (fr : Nat × Nat) (es : Nat) (l : List At) (ty2 : TypeId) (fr2 : Nat × Nat) (es2 : Nat) (l2 : List At) (v i : Int) : projS [0,1,9] [0,1,2,3] (exec Try.prog S68 Zl 400 (.code (c1 (c1 (c2 (c1 dtBd))))) (Kst.st ⟨[(0, A0), (1, I s), (2, SLX 1 oa na ca), (3, SLX 2 ob nn cb), (9, P3), (10, I i)], [(0, flag TY hb), (1, ⟨ty, fr, es, l⟩), (2, ⟨ty2, fr2, es2, l2⟩), (3, bB v)], 4⟩ 59 dead (tt 8 (ff 1 [])))) = some (Ex.exit 0, [A0, I s, P3], [some (flag TY hb), some ⟨ty, fr, es, l⟩, some ⟨ty2, fr2, es2, l2⟩, some (bB v)], [(decide (i < 100), false), (decide (i < (nn : Int)), true), (decide (i < (nn : Int)), true), (decide (i < (nn : Int)), true), (decide (i < (na : Int)), true), (decide (i < (na : Int)), true), (decide (i < (na : Int)), true), (decide (i < (na : Int)), true), (decide (i < (na : Int)), true)]) := by kernel_rfl
theorem dt_two_e (dead : Nat → Value) (hb : Bool) (s : Int) (oa na ca ob nn cb : Nat) (ty : TypeId) (fr : Nat × Nat) (es : Nat) (l : List At) (ty2 : TypeId) (fr2 : Nat × Nat) (es2 : Nat) (l2 : List At) (v : Int) : projS [8] [0,1,2] (exec Try.prog S68 Zl 400 (.code (c2 dtBd)) (Kst.st ⟨[(0, A0), (1, I s), (9, P3)], [(0, flag TY hb), (1, ⟨ty, fr, es, l⟩), (2, ⟨ty2, fr2, es2, l2⟩), (3, bB v)], 4⟩ 59 dead [])) = some (Ex.ret, [I (satV (bq (rndV (bq v) s.toNat)))], [some (flag TY (hb || satH (bq (rndV (bq v) s.toNat)))), some ⟨ty, fr, es, l⟩, some ⟨ty2, fr2, es2, l2⟩], [(isDB (dig 8 (absV (rndV (bq v) s.toNat))), true), (rndAsk v s, true)]) := by kernel_rfl
theorem dt_one_a (dead : Nat → Value) (hb : Bool) (s : Int) (oa na ca ob nn cb : Nat) (ty : TypeId) (fr : Nat × Nat) (es : Nat) (l : List At) (ty2 : TypeId) (fr2 : Nat × Nat) (es2 : Nat) (l2 : List At) : projS [0,1,2,3,9] [0,1,3] (execL Try.prog S68 Zl 400 (spineL 3 (bodyF Try.prog 31)) (Kst.st ⟨argsL 0 [A0, I s, SLX 1 oa na ca, SLX 1 ob nn cb], [(0, flag TY hb), (1, ⟨ty, fr, es, l⟩)], 3⟩ 59 dead (ff 4 []))) = some (Ex.normal, [A0, I s, SLX 1 oa na ca, SLX 1 ob nn cb, P3], [some (flag TY hb), some ⟨ty, fr, es, l⟩, some (bB 0)], [(i64B 0, true), (decide (s > 120), false), (decide (s < 0), false), (decide (s < 0), false), (decide (s < 0), false)]) := by kernel_rfl
theorem dt_one_b (dead : Nat → Value) (hb : Bool) (s : Int) (oa na ca ob nn cb : Nat) (ty : TypeId) (fr : Nat × Nat) (es : Nat) (l : List At) (ty2 : TypeId) (fr2 : Nat × Nat) (es2 : Nat) (l2 : List At) : projS [0,1,2,3,9,10] [0,1,3] (exec Try.prog S68 Zl 400 (.code (c1 (c1 dtBd))) (Kst.st ⟨[(0, A0), (1, I s), (2, SLX 1 oa na ca), (3, SLX 1 ob nn cb), (9, P3)], [(0, flag TY hb), (1, ⟨ty, fr, es, l⟩), (3, bB 0)], 4⟩ 59 dead [])) = some (Ex.normal, [A0, I s, SLX 1 oa na ca, SLX 1 ob nn cb, P3, I 0], [some (flag TY hb), some ⟨ty, fr, es, l⟩, some (bB 0)], []) := by kernel_rfl
theorem dt_one_c (dead : Nat → Value) (hb : Bool) (s : Int) (oa na ca ob nn cb : Nat) (ty : TypeId) (fr : Nat × Nat) (es : Nat) (l : List At) (ty2 : TypeId) (fr2 : Nat × Nat) (es2 : Nat) (l2 : List At) (v i : Int) : projS [0,1,2,3,9,10] [0,1,3] (exec Try.prog S68 Zl 400 (.code (c1 (c1 (c2 (c1 dtBd))))) (Kst.st ⟨[(0, A0), (1, I s), (2, SLX 1 oa na ca), (3, SLX 1 ob nn cb), (9, P3), (10, I i)], [(0, flag TY hb), (1, ⟨ty, fr, es, l⟩), (3, bB v)], 4⟩ 59 dead (tt 9 []))) = some (Ex.normal, [A0, I s, SLX 1 oa na ca, SLX 1 ob nn cb, P3, I (wr .i64 (i + 1))], [some (flag TY (hb || satH (intAt l (oa + i.toNat * 1)) || satH (intAt l (ob + i.toNat * 1)))), some ⟨ty, fr, es, l⟩, some (bB (bq v + bq (bq (satV (intAt l (oa + i.toNat * 1))) * bq (satV (intAt l (ob + i.toNat * 1))))))], [(addAsk v (bq (satV (intAt l (oa + i.toNat * 1))) * bq (satV (intAt l (ob + i.toNat * 1)))), true), (mulAsk (satV (intAt l (oa + i.toNat * 1))) (satV (intAt l (ob + i.toNat * 1))), true), (i64B (satV (intAt l (ob + i.toNat * 1))), true), (isIntAt IntKind.i64 l (ob + i.toNat * 1), true), (decide (0 ≤ i) && decide (i < (nn : Int)), true), (i64B (satV (intAt l (oa + i.toNat * 1))), true), (isIntAt IntKind.i64 l (oa + i.toNat * 1), true), (decide (0 ≤ i) && decide (i < (na : Int)), true), (decide (i < 100), true), (decide (i < (nn : Int)), true), (decide (i < (nn : Int)), true), (decide (i < (nn : Int)), true), (decide (i < (na : Int)), true), (decide (i < (na : Int)), true), (decide (i < (na : Int)), true), (decide (i < (na : Int)), true), (decide (i < (na : Int)), true)]) := by kernel_rfl
theorem dt_one_f1 (dead : Nat → Value) (hb : Bool) (s : Int) (oa na ca ob nn cb : Nat) (ty : TypeId) (fr : Nat × Nat) (es : Nat) (l : List At) (ty2 : TypeId) (fr2 : Nat × Nat) (es2 : Nat) (l2 : List At) (v i : Int) : projS [0,1,9] [0,1,3] (exec Try.prog S68 Zl 400 (.code (c1 (c1 (c2 (c1 dtBd))))) (Kst.st ⟨[(0, A0), (1, I s), (2, SLX 1 oa na ca), (3, SLX 1 ob nn cb), (9, P3), (10, I i)], [(0, flag TY hb), (1, ⟨ty, fr, es, l⟩), (3, bB v)], 4⟩ 59 dead (ff 5 []))) = some (Ex.exit 0, [A0, I s, P3], [some (flag TY hb), some ⟨ty, fr, es, l⟩, some (bB v)], [(decide (i < (na : Int)), false), (decide (i < (na : Int)), false), (decide (i < (na : Int)), false), (decide (i < (na : Int)), false), (decide (i < (na : Int)), false)]) := by kernel_rfl
theorem dt_one_f2 (dead : Nat → Value) (hb : Bool) (s : Int) (oa na ca ob nn cb : Nat) (ty : TypeId) (fr : Nat × Nat) (es : Nat) (l : List At) (ty2 : TypeId) (fr2 : Nat × Nat) (es2 : Nat) (l2 : List At) (v i : Int) : projS [0,1,9] [0,1,3] (exec Try.prog S68 Zl 400 (.code (c1 (c1 (c2 (c1 dtBd))))) (Kst.st ⟨[(0, A0), (1, I s), (2, SLX 1 oa na ca), (3, SLX 1 ob nn cb), (9, P3), (10, I i)], [(0, flag TY hb), (1, ⟨ty, fr, es, l⟩), (3, bB v)], 4⟩ 59 dead (tt 5 (ff 3 [])))) = some (Ex.exit 0, [A0, I s, P3], [some (flag TY hb), some ⟨ty, fr, es, l⟩, some (bB v)], [(decide (i < (nn : Int)), false), (decide (i < (nn : Int)), false), (decide (i < (nn : Int)), false), (decide (i < (na : Int)), true), (decide (i < (na : Int)), true), (decide (i < (na : Int)), true), (decide (i < (na : Int)), true), (decide (i < (na : Int)), true)]) := by kernel_rfl
theorem dt_one_f3 (dead : Nat → Value) (hb : Bool) (s : Int) (oa na ca ob nn cb : Nat) (ty : TypeId) (fr : Nat × Nat) (es : Nat) (l : List At) (ty2 : TypeId) (fr2 : Nat × Nat) (es2 : Nat) (l2 : List At) (v i : Int) : projS [0,1,9] [0,1,3] (exec Try.prog S68 Zl 400 (.code (c1 (c1 (c2 (c1 dtBd))))) (Kst.st ⟨[(0, A0), (1, I s), (2, SLX 1 oa na ca), (3, SLX 1 ob nn cb), (9, P3), (10, I i)], [(0, flag TY hb), (1, ⟨ty, fr, es, l⟩), (3, bB v)], 4⟩ 59 dead (tt 8 (ff 1 [])))) = some (Ex.exit 0, [A0, I s, P3], [some (flag TY hb), some ⟨ty, fr, es, l⟩, some (bB v)], [(decide (i < 100), false), (decide (i < (nn : Int)), true), (decide (i < (nn : Int)), true), (decide (i < (nn : Int)), true), (decide (i < (na : Int)), true), (decide (i < (na : Int)), true), (decide (i < (na : Int)), true), (decide (i < (na : Int)), true), (decide (i < (na : Int)), true)]) := by kernel_rfl
theorem dt_one_e (dead : Nat → Value) (hb : Bool) (s : Int) (oa na ca ob nn cb : Nat) (ty : TypeId) (fr : Nat × Nat) (es : Nat) (l : List At) (ty2 : TypeId) (fr2 : Nat × Nat) (es2 : Nat) (l2 : List At) (v : Int) : projS [8] [0,1] (exec Try.prog S68 Zl 400 (.code (c2 dtBd)) (Kst.st ⟨[(0, A0), (1, I s), (9, P3)], [(0, flag TY hb), (1, ⟨ty, fr, es, l⟩), (3, bB v)], 4⟩ 59 dead [])) = some (Ex.ret, [I (satV (bq (rndV (bq v) s.toNat)))], [some (flag TY (hb || satH (bq (rndV (bq v) s.toNat)))), some ⟨ty, fr, es, l⟩], [(isDB (dig 8 (absV (rndV (bq v) s.toNat))), true), (rndAsk v s, true)]) := by kernel_rfl
theorem dq_two_neg (hb : Bool) (s : Int) (oa na ca ob nn cb : Nat) (ty : TypeId) (fr : Nat × Nat) (es : Nat) (l : List At) (ty2 : TypeId) (fr2 : Nat × Nat) (es2 : Nat) (l2 : List At) : (runF Try.prog S68 Zl 4000 31 [A0, I s, SLX 1 oa na ca, SLX 2 ob nn cb] [(0, flag TY hb), (1, ⟨ty, fr, es, l⟩), (2, ⟨ty2, fr2, es2, l2⟩)] 3 (tt 3 [])).map (fun r => (r.1, getM r.2.1 0, getM r.2.1 1, getM r.2.1 2, r.2.2.2)) = some (I 0, some (flag TY true), some ⟨ty, fr, es, l⟩, some ⟨ty2, fr2, es2, l2⟩, [(decide (s < 0), true), (decide (s < 0), true), (decide (s < 0), true)]) := by kernel_rfl
theorem dq_two_big (hb : Bool) (s : Int) (oa na ca ob nn cb : Nat) (ty : TypeId) (fr : Nat × Nat) (es : Nat) (l : List At) (ty2 : TypeId) (fr2 : Nat × Nat) (es2 : Nat) (l2 : List At) : (runF Try.prog S68 Zl 4000 31 [A0, I s, SLX 1 oa na ca, SLX 2 ob nn cb] [(0, flag TY hb), (1, ⟨ty, fr, es, l⟩), (2, ⟨ty2, fr2, es2, l2⟩)] 3 (ff 3 (tt 1 []))).map (fun r => (r.1, getM r.2.1 0, getM r.2.1 1, getM r.2.1 2, r.2.2.2)) = some (I 0, some (flag TY true), some ⟨ty, fr, es, l⟩, some ⟨ty2, fr2, es2, l2⟩, [(decide (s > 120), true), (decide (s < 0), false), (decide (s < 0), false), (decide (s < 0), false)]) := by kernel_rfl
theorem dq_one_neg (hb : Bool) (s : Int) (oa na ca ob nn cb : Nat) (ty : TypeId) (fr : Nat × Nat) (es : Nat) (l : List At) (ty2 : TypeId) (fr2 : Nat × Nat) (es2 : Nat) (l2 : List At) : (runF Try.prog S68 Zl 4000 31 [A0, I s, SLX 1 oa na ca, SLX 1 ob nn cb] [(0, flag TY hb), (1, ⟨ty, fr, es, l⟩)] 3 (tt 3 [])).map (fun r => (r.1, getM r.2.1 0, getM r.2.1 1, (none : Option Blk), r.2.2.2)) = some (I 0, some (flag TY true), some ⟨ty, fr, es, l⟩, none, [(decide (s < 0), true), (decide (s < 0), true), (decide (s < 0), true)]) := by kernel_rfl
theorem dq_one_big (hb : Bool) (s : Int) (oa na ca ob nn cb : Nat) (ty : TypeId) (fr : Nat × Nat) (es : Nat) (l : List At) (ty2 : TypeId) (fr2 : Nat × Nat) (es2 : Nat) (l2 : List At) : (runF Try.prog S68 Zl 4000 31 [A0, I s, SLX 1 oa na ca, SLX 1 ob nn cb] [(0, flag TY hb), (1, ⟨ty, fr, es, l⟩)] 3 (ff 3 (tt 1 []))).map (fun r => (r.1, getM r.2.1 0, getM r.2.1 1, (none : Option Blk), r.2.2.2)) = some (I 0, some (flag TY true), some ⟨ty, fr, es, l⟩, none, [(decide (s > 120), true), (decide (s < 0), false), (decide (s < 0), false), (decide (s < 0), false)]) := by kernel_rfl
theorem dq_left_neg (hb : Bool) (s : Int) (oa na ca ob nn cb : Nat) (ty : TypeId) (fr : Nat × Nat) (es : Nat) (l : List At) (ty2 : TypeId) (fr2 : Nat × Nat) (es2 : Nat) (l2 : List At) : (runF Try.prog S68 Zl 4000 31 [A0, I s, SLX 1 oa na ca, .v (.one .nilsl)] [(0, flag TY hb), (1, ⟨ty, fr, es, l⟩)] 2 (tt 3 [])).map (fun r => (r.1, getM r.2.1 0, getM r.2.1 1, (none : Option Blk), r.2.2.2)) = some (I 0, some (flag TY true), some ⟨ty, fr, es, l⟩, none, [(decide (s < 0), true), (decide (s < 0), true), (decide (s < 0), true)]) := by kernel_rfl
theorem dq_left_big (hb : Bool) (s : Int) (oa na ca ob nn cb : Nat) (ty : TypeId) (fr : Nat × Nat) (es : Nat) (l : List At) (ty2 : TypeId) (fr2 : Nat × Nat) (es2 : Nat) (l2 : List At) : (runF Try.prog S68 Zl 4000 31 [A0, I s, SLX 1 oa na ca, .v (.one .nilsl)] [(0, flag TY hb), (1, ⟨ty, fr, es, l⟩)] 2 (ff 3 (tt 1 []))).map (fun r => (r.1, getM r.2.1 0, getM r.2.1 1, (none : Option Blk), r.2.2.2)) = some (I 0, some (flag TY true), some ⟨ty, fr, es, l⟩, none, [(decide (s > 120), true), (decide (s < 0), false), (decide (s < 0), false), (decide (s < 0), false)]) := by kernel_rfl
theorem dq_left_in1 (hb : Bool) (s : Int) (oa na ca ob nn cb : Nat) (ty : TypeId) (fr : Nat × Nat) (es : Nat) (l : List At) (ty2 : TypeId) (fr2 : Nat × Nat) (es2 : Nat) (l2 : List At) : (runF Try.prog S68 Zl 4000 31 [A0, I s, SLX 1 oa na ca, .v (.one .nilsl)] [(0, flag TY hb), (1, ⟨ty, fr, es, l⟩)] 2 (ff 4 (tt 5 []))).map (fun r => (r.1, getM r.2.1 0, getM r.2.1 1, (none : Option Blk), r.2.2.2)) = some (I (satV (bq (rndV (bq 0) s.toNat))), some (flag TY (hb || satH (bq (rndV (bq 0) s.toNat)))), some ⟨ty, fr, es, l⟩, none, [(isDB (dig 8 (absV (rndV (bq 0) s.toNat))), true), (rndAsk 0 s, true), (decide ((0 : Int) < (na : Int)), true), (decide ((0 : Int) < (na : Int)), true), (decide ((0 : Int) < (na : Int)), true), (decide ((0 : Int) < (na : Int)), true), (decide ((0 : Int) < (na : Int)), true), (i64B 0, true), (decide (s > 120), false), (decide (s < 0), false), (decide (s < 0), false), (decide (s < 0), false)]) := by kernel_rfl
theorem dq_left_in0 (hb : Bool) (s : Int) (oa na ca ob nn cb : Nat) (ty : TypeId) (fr : Nat × Nat) (es : Nat) (l : List At) (ty2 : TypeId) (fr2 : Nat × Nat) (es2 : Nat) (l2 : List At) : (runF Try.prog S68 Zl 4000 31 [A0, I s, SLX 1 oa na ca, .v (.one .nilsl)] [(0, flag TY hb), (1, ⟨ty, fr, es, l⟩)] 2 (ff 9 [])).map (fun r => (r.1, getM r.2.1 0, getM r.2.1 1, (none : Option Blk), r.2.2.2)) = some (I (satV (bq (rndV (bq 0) s.toNat))), some (flag TY (hb || satH (bq (rndV (bq 0) s.toNat)))), some ⟨ty, fr, es, l⟩, none, [(isDB (dig 8 (absV (rndV (bq 0) s.toNat))), true), (rndAsk 0 s, true), (decide ((0 : Int) < (na : Int)), false), (decide ((0 : Int) < (na : Int)), false), (decide ((0 : Int) < (na : Int)), false), (decide ((0 : Int) < (na : Int)), false), (decide ((0 : Int) < (na : Int)), false), (i64B 0, true), (decide (s > 120), false), (decide (s < 0), false), (decide (s < 0), false), (decide (s < 0), false)]) := by kernel_rfl
theorem dq_right_neg (hb : Bool) (s : Int) (oa na ca ob nn cb : Nat) (ty : TypeId) (fr : Nat × Nat) (es : Nat) (l : List At) (ty2 : TypeId) (fr2 : Nat × Nat) (es2 : Nat) (l2 : List At) : (runF Try.prog S68 Zl 4000 31 [A0, I s, .v (.one .nilsl), SLX 1 ob nn cb] [(0, flag TY hb), (1, ⟨ty, fr, es, l⟩)] 2 (tt 3 [])).map (fun r => (r.1, getM r.2.1 0, getM r.2.1 1, (none : Option Blk), r.2.2.2)) = some (I 0, some (flag TY true), some ⟨ty, fr, es, l⟩, none, [(decide (s < 0), true), (decide (s < 0), true), (decide (s < 0), true)]) := by kernel_rfl
theorem dq_right_big (hb : Bool) (s : Int) (oa na ca ob nn cb : Nat) (ty : TypeId) (fr : Nat × Nat) (es : Nat) (l : List At) (ty2 : TypeId) (fr2 : Nat × Nat) (es2 : Nat) (l2 : List At) : (runF Try.prog S68 Zl 4000 31 [A0, I s, .v (.one .nilsl), SLX 1 ob nn cb] [(0, flag TY hb), (1, ⟨ty, fr, es, l⟩)] 2 (ff 3 (tt 1 []))).map (fun r => (r.1, getM r.2.1 0, getM r.2.1 1, (none : Option Blk), r.2.2.2)) = some (I 0, some (flag TY true), some ⟨ty, fr, es, l⟩, none, [(decide (s > 120), true), (decide (s < 0), false), (decide (s < 0), false), (decide (s < 0), false)]) := by kernel_rfl
theorem dq_right_in (hb : Bool) (s : Int) (oa na ca ob nn cb : Nat) (ty : TypeId) (fr : Nat × Nat) (es : Nat) (l : List At) (ty2 : TypeId) (fr2 : Nat × Nat) (es2 : Nat) (l2 : List At) : (runF Try.prog S68 Zl 4000 31 [A0, I s, .v (.one .nilsl), SLX 1 ob nn cb] [(0, flag TY hb), (1, ⟨ty, fr, es, l⟩)] 2 (ff 4 [])).map (fun r => (r.1, getM r.2.1 0, getM r.2.1 1, (none : Option Blk), r.2.2.2)) = some (I (satV (bq (rndV (bq 0) s.toNat))), some (flag TY (hb || satH (bq (rndV (bq 0) s.toNat)))), some ⟨ty, fr, es, l⟩, none, [(isDB (dig 8 (absV (rndV (bq 0) s.toNat))), true), (rndAsk 0 s, true), (i64B 0, true), (decide (s > 120), false), (decide (s < 0), false), (decide (s < 0), false), (decide (s < 0), false)]) := by kernel_rfl
theorem dq_none_neg (hb : Bool) (s : Int) (oa na ca ob nn cb : Nat) (ty : TypeId) (fr : Nat × Nat) (es : Nat) (l : List At) (ty2 : TypeId) (fr2 : Nat × Nat) (es2 : Nat) (l2 : List At) : (runF Try.prog S68 Zl 4000 31 [A0, I s, .v (.one .nilsl), .v (.one .nilsl)] [(0, flag TY hb)] 1 (tt 3 [])).map (fun r => (r.1, getM r.2.1 0, (none : Option Blk), (none : Option Blk), r.2.2.2)) = some (I 0, some (flag TY true), none, none, [(decide (s < 0), true), (decide (s < 0), true), (decide (s < 0), true)]) := by kernel_rfl
theorem dq_none_big (hb : Bool) (s : Int) (oa na ca ob nn cb : Nat) (ty : TypeId) (fr : Nat × Nat) (es : Nat) (l : List At) (ty2 : TypeId) (fr2 : Nat × Nat) (es2 : Nat) (l2 : List At) : (runF Try.prog S68 Zl 4000 31 [A0, I s, .v (.one .nilsl), .v (.one .nilsl)] [(0, flag TY hb)] 1 (ff 3 (tt 1 []))).map (fun r => (r.1, getM r.2.1 0, (none : Option Blk), (none : Option Blk), r.2.2.2)) = some (I 0, some (flag TY true), none, none, [(decide (s > 120), true), (decide (s < 0), false), (decide (s < 0), false), (decide (s < 0), false)]) := by kernel_rfl
theorem dq_none_in (hb : Bool) (s : Int) (oa na ca ob nn cb : Nat) (ty : TypeId) (fr : Nat × Nat) (es : Nat) (l : List At) (ty2 : TypeId) (fr2 : Nat × Nat) (es2 : Nat) (l2 : List At) : (runF Try.prog S68 Zl 4000 31 [A0, I s, .v (.one .nilsl), .v (.one .nilsl)] [(0, flag TY hb)] 1 (ff 4 [])).map (fun r => (r.1, getM r.2.1 0, (none : Option Blk), (none : Option Blk), r.2.2.2)) = some (I (satV (bq (rndV (bq 0) s.toNat))), some (flag TY (hb || satH (bq (rndV (bq 0) s.toNat)))), none, none, [(isDB (dig 8 (absV (rndV (bq 0) s.toNat))), true), (rndAsk 0 s, true), (i64B 0, true), (decide (s > 120), false), (decide (s < 0), false), (decide (s < 0), false), (decide (s < 0), false)]) := by kernel_rfl

theorem q0_out {s : Int} (h : s < 0 ∨ s > 120) (xs ys : List Int) (hb : Bool) : (0 : Int) = dotV s xs ys ∧ true = (hb || dotH s xs ys) := by
  unfold dotV dotH rndS rndH
  rcases h with h | h
  · simp [h]
  · have : ¬ s < 0 := by omega
    simp [h, this]
theorem q0_in {s D : Int} (hD : absV D ≤ 340282366920938463463374607431768211456) (h0 : 0 ≤ s) (h1 : s ≤ 120) : satV (bq (rndV (bq D) s.toNat)) = rndS D s ∧ satH (bq (rndV (bq D) s.toNat)) = rndH D s ∧ isDB (dig 8 (absV (rndV (bq D) s.toNat))) = true ∧ rndAsk D s = true := by
  have e := bv_sm hD
  have h2 := rnd_abs D s.toNat
  have e2 := bv_sm (v := rndV D s.toNat) (by omega)
  have e1 : bq D = D := e
  have e3 : bq (rndV D s.toNat) = rndV D s.toNat := e2
  refine ⟨?_, ?_, isDBd _, rnd_sm8 hD h0 h1⟩
  · unfold rndS; rw [if_neg (by omega), if_neg (by omega), e1, e3]
  · unfold rndH; rw [decide_eq_false (by omega), decide_eq_false (by omega), e1, e3]; rfl
theorem q0_nil {s : Int} {xs ys : List Int} (h : xs = [] ∨ ys = []) (h0 : 0 ≤ s) (h1 : s ≤ 120) (hb : Bool) : satV (bq (rndV (bq 0) s.toNat)) = dotV s xs ys ∧ (hb || satH (bq (rndV (bq 0) s.toNat))) = (hb || dotH s xs ys) ∧ isDB (dig 8 (absV (rndV (bq 0) s.toNat))) = true ∧ rndAsk 0 s = true := by
  obtain ⟨a, b, c, d⟩ := q0_in (s := s) (D := 0) (by show (0 : Int) ≤ _; omega) h0 h1
  rw [a, b]
  refine ⟨?_, ?_, c, d⟩
  · unfold dotV
    rcases h with rfl | rfl
    · simp [dotS]
    · simp [dotS_nilr]
  · unfold dotH
    rcases h with rfl | rfl
    · simp [dotS, dotFl]
    · simp [dotS_nilr, dotFl_nilr]
theorem cq_neg {s : Int} (h : s < 0) : ∀ c ∈ [(decide (s < 0), true), (decide (s < 0), true), (decide (s < 0), true)], c.1 = c.2 := by
  rw [decide_eq_true h]; simp
theorem cq_big {s : Int} (h : s > 120) : ∀ c ∈ [(decide (s > 120), true), (decide (s < 0), false), (decide (s < 0), false), (decide (s < 0), false)], c.1 = c.2 := by
  rw [decide_eq_true h, decide_eq_false (show ¬ s < 0 by omega)]; simp
theorem cq_tl {s : Int} (h0 : 0 ≤ s) (h : s ≤ 120) : ∀ c ∈ [(i64B 0, true), (decide (s > 120), false), (decide (s < 0), false), (decide (s < 0), false), (decide (s < 0), false)], c.1 = c.2 := by
  have h1 : i64B 0 = true := by decide
  rw [h1, decide_eq_false (show ¬ s > 120 by omega), decide_eq_false (show ¬ s < 0 by omega)]; simp

section
variable {P : Program} {S : FuncId → Option SumK} {z : Md}
theorem lcl3b (hs : Sound P S) {n : Nat} {f : FuncId} {args : List LV} {m m' : Mem} {nb : Nat} {dec : List (Option Bool)} {v : LV} {b0 b1 b2 : Option Blk} {cs : List (Bool × Bool)}
    (hrun : (runF P S z n f args m nb dec).map (fun r => (r.1, getM r.2.1 0, getM r.2.1 1, (none : Option Blk), r.2.2.2)) = some (v, b0, b1, b2, cs))
    (hg : ∀ i b, getM m' i = some b → (i = 0 ∧ b0 = some b ∨ i = 1 ∧ b1 = some b) ∧ i < nb ∧ okL (below nb) b.cells = true) (hc : ∀ c ∈ cs, c.1 = c.2) (hm : memOKb nb m = true) (ha : ∀ u ∈ args, u.ok (below nb) = true) (hv : v.ok noP = true)
    (E : Env) (w : World) (hrel : Rel E (getM m) w) : Calls P f (args.map (LV.den E)).toArray w fun e w' => e = .returned (v.den E0) ∧ Lcl E m m' w w' := by
  cases hq : runF P S z n f args m nb dec with
  | none => rw [hq] at hrun; cases hrun
  | some q =>
    obtain ⟨v', m2, nb', cs'⟩ := q
    rw [hq] at hrun
    simp only [Option.map_some, Option.some.injEq, Prod.mk.injEq] at hrun
    obtain ⟨rfl, e0, e1, -, rfl⟩ := hrun
    refine lcl_of_run hs hq (fun i b hib => ?_) hc hm ha hv E w hrel
    obtain ⟨h, h2⟩ := hg i b hib
    refine ⟨?_, h2⟩
    rcases h with ⟨rfl, h⟩ | ⟨rfl, h⟩
    · rw [e0, h]
    · rw [e1, h]
theorem lcl3c (hs : Sound P S) {n : Nat} {f : FuncId} {args : List LV} {m m' : Mem} {nb : Nat} {dec : List (Option Bool)} {v : LV} {b0 b1 b2 : Option Blk} {cs : List (Bool × Bool)}
    (hrun : (runF P S z n f args m nb dec).map (fun r => (r.1, getM r.2.1 0, (none : Option Blk), (none : Option Blk), r.2.2.2)) = some (v, b0, b1, b2, cs))
    (hg : ∀ i b, getM m' i = some b → (i = 0 ∧ b0 = some b) ∧ i < nb ∧ okL (below nb) b.cells = true) (hc : ∀ c ∈ cs, c.1 = c.2) (hm : memOKb nb m = true) (ha : ∀ u ∈ args, u.ok (below nb) = true) (hv : v.ok noP = true)
    (E : Env) (w : World) (hrel : Rel E (getM m) w) : Calls P f (args.map (LV.den E)).toArray w fun e w' => e = .returned (v.den E0) ∧ Lcl E m m' w w' := by
  cases hq : runF P S z n f args m nb dec with
  | none => rw [hq] at hrun; cases hrun
  | some q =>
    obtain ⟨v', m2, nb', cs'⟩ := q
    rw [hq] at hrun
    simp only [Option.map_some, Option.some.injEq, Prod.mk.injEq] at hrun
    obtain ⟨rfl, e0, -, -, rfl⟩ := hrun
    refine lcl_of_run hs hq (fun i b hib => ?_) hc hm ha hv E w hrel
    obtain ⟨⟨rfl, h⟩, h2⟩ := hg i b hib
    exact ⟨by rw [e0, h], h2⟩
end

def qAtwo (k1 k2 : Blk) (s : Int) (oa na ca ob nn cb : Nat) (h : Bool) (v i : Int) : Kst := ⟨[(0, A0), (1, I s), (2, SLX 1 oa na ca), (3, SLX 2 ob nn cb), (9, P3), (10, I i)], [(0, flag TY h), (1, k1), (2, k2), (3, bB v)], 4⟩
def qBtwo (k1 k2 : Blk) (s : Int) (h : Bool) (v : Int) : Kst := ⟨[(0, A0), (1, I s), (9, P3)], [(0, flag TY h), (1, k1), (2, k2), (3, bB v)], 4⟩
theorem qSteptwo (k1 k2 : Blk) (s : Int) (oa na ca ob nn cb : Nat) (xs ys : List Int) (hx : SlAt 1 k1 oa na xs) (hy : SlAt 1 k2 ob nn ys) (hb : Bool) (m : Nat) (hm : m ≤ 100) (hma : m ≤ na) (hmb : m ≤ nn) (i : Nat) (hi : i < m) :
    To Try.prog 59 (c1 (c1 (c2 (c1 dtBd)))) (qAtwo k1 k2 s oa na ca ob nn cb (hb || dotFl (xs.take i) (ys.take i)) (dotS (xs.take i) (ys.take i)) i) .normal (qAtwo k1 k2 s oa na ca ob nn cb (hb || dotFl (xs.take (i + 1)) (ys.take (i + 1))) (dotS (xs.take (i + 1)) (ys.take (i + 1))) ((i : Int) + 1)) := by
  obtain ⟨hlen, hat, hok⟩ := hx
  obtain ⟨hlen2, hat2, hok2⟩ := hy
  have ix : i < xs.length := by omega
  have iy : i < ys.length := by omega
  have hx := intAt_of (hat i ix)
  have hy := intAt_of (hat2 i iy)
  have b0 := dotS_bd (xs.take i) (ys.take i)
  rw [List.length_take] at b0
  have b1 := satsat xs[i] ys[i]
  have hmi : ((min i xs.length : Nat) : Int) = i := by omega
  rw [hmi] at b0
  have e0 : (xs.take i).length = (ys.take i).length := by simp only [List.length_take]; omega
  have e1 : dotS (xs.take (i + 1)) (ys.take (i + 1)) = dotS (xs.take i) (ys.take i) + satV xs[i] * satV ys[i] := by rw [take_snoc xs i ix, take_snoc ys i iy, dotS_app _ _ _ _ e0]
  have e2 : (hb || dotFl (xs.take (i + 1)) (ys.take (i + 1))) = (((hb || dotFl (xs.take i) (ys.take i)) || satH xs[i]) || satH ys[i]) := by rw [take_snoc xs i ix, take_snoc ys i iy, dotFl_app _ _ _ _ e0]; simp [Bool.or_assoc]
  have e3 : ((i : Int)).toNat * 1 = i := by simp
  have e4 : wr .i64 ((i : Int) + 1) = (i : Int) + 1 := w64_in (by omega) (by omega)
  have hI := i64sat xs[i]
  have hI2 := i64sat ys[i]
  have a0 := sat_bd xs[i]
  have a1 := sat_bd ys[i]
  have s0 : absV (satV xs[i]) ≤ 1152921504606846976 := absV_le (by omega) (by omega)
  have s1 : absV (satV ys[i]) ≤ 1152921504606846976 := absV_le (by omega) (by omega)
  obtain ⟨ty, fr, es, l⟩ := k1
  obtain ⟨ty2, fr2, es2, l2⟩ := k2
  rw [e1, e2]
  generalize dotS (xs.take i) (ys.take i) = D at *
  obtain ⟨⟨bD0, bD1⟩, ⟨bp0, bp1⟩, bs0, bs1⟩ := dot_bds hi hm b0 b1
  have c0 : absV D ≤ 340282366920938463463374607431768211456 := absV_le (by omega) (by omega)
  have c1' : absV (satV xs[i] * satV ys[i]) ≤ 340282366920938463463374607431768211456 := absV_le (by omega) (by omega)
  have j0 : (0 : Int) ≤ (i : Int) := Int.natCast_nonneg i
  have j1 : (i : Int) < (na : Int) := Int.ofNat_lt.2 (Nat.lt_of_lt_of_le hi hma)
  have j2 : (i : Int) < (nn : Int) := Int.ofNat_lt.2 (Nat.lt_of_lt_of_le hi hmb)
  have j3 : (i : Int) < 100 := Int.ofNat_lt.2 (Nat.lt_of_lt_of_le hi hm)
  have t0 := bv_sm (v := satV xs[i]) (by omega)
  have t1 := bv_sm (v := satV ys[i]) (by omega)
  have t2 := bv_sm c0
  have t3 := bv_sm c1'
  refine To.run (z := Zl) sound68 (slots := [0, 1, 2, 3, 9, 10]) (blks := [0, 1, 2, 3]) (vs := [A0, I s, SLX 1 oa na ca, SLX 2 ob nn cb, P3, I ((i : Int) + 1)])
    (bs := [flag TY (((hb || dotFl (xs.take i) (ys.take i)) || satH xs[i]) || satH ys[i]), ⟨ty, fr, es, l⟩, ⟨ty2, fr2, es2, l2⟩, bB (D + satV xs[i] * satV ys[i])]) (nbB := 4)
    (fun dead => dt_two_c dead (hb || dotFl (xs.take i) (ys.take i)) s oa na ca ob nn cb ty fr es l ty2 fr2 es2 l2 D i) rfl (by rw [e4]) (by rw [e3, hx.1, hy.1]; simp only [bq, t0, t1, t2, t3]; rfl) ?_ (kst_ok rfl (memOK4 (Nat.le_refl _) rfl (okL_mono noP_below hok) (okL_mono noP_below hok2) rfl)) (Nat.le_refl _)
  rw [e3, hx.1, hx.2, hy.1, hy.2, hI, hI2, mul_sm s0 s1]
  have ad := add_sm c0 c1'
  have ja : decide ((i : Int) < (na : Int)) = true := decide_eq_true j1
  have jb : decide ((i : Int) < (nn : Int)) = true := decide_eq_true j2
  have jc : decide ((i : Int) < 100) = true := decide_eq_true j3
  have jd : decide ((0 : Int) ≤ (i : Int)) = true := decide_eq_true j0
  rw [ja, jb, jc, jd]
  refine ae_cons ?_ (by simp)
  show addAsk D (bq (satV xs[i]) * bq (satV ys[i])) = true
  rw [show bq (satV xs[i]) = satV xs[i] from t0, show bq (satV ys[i]) = satV ys[i] from t1]
  exact ad
theorem qEndtwo (k1 k2 : Blk) (s : Int) (oa na ca ob nn cb : Nat) (hok : okL noP k1.cells = true) (hok2 : okL noP k2.cells = true) (h : Bool) (v : Int) (m : Nat) (hm : m = min (min na nn) 100) : To Try.prog 59 (c1 (c1 (c2 (c1 dtBd)))) (qAtwo k1 k2 s oa na ca ob nn cb h v m) (.exit 0) (qBtwo k1 k2 s h v) := by
  obtain ⟨ty, fr, es, l⟩ := k1
  obtain ⟨ty2, fr2, es2, l2⟩ := k2
  by_cases g1 : na ≤ m
  · refine To.exec (z := Zl) sound68 (slots := [0, 1, 9]) (blks := [0, 1, 2, 3]) (vs := [A0, I s, P3]) (bs := [flag TY h, ⟨ty, fr, es, l⟩, ⟨ty2, fr2, es2, l2⟩, bB v]) (nbB := 4) (fun dead => dt_two_f1 dead h s oa na ca ob nn cb ty fr es l ty2 fr2 es2 l2 v m) ?_ (kst_ok rfl (memOK4 (Nat.le_refl _) rfl (okL_mono noP_below hok) (okL_mono noP_below hok2) rfl)) (Nat.le_refl _)
    rw [decide_eq_false (show ¬ ((m : Int) < (na : Int)) by omega)]; simp
  · by_cases g2 : nn ≤ m
    · refine To.exec (z := Zl) sound68 (slots := [0, 1, 9]) (blks := [0, 1, 2, 3]) (vs := [A0, I s, P3]) (bs := [flag TY h, ⟨ty, fr, es, l⟩, ⟨ty2, fr2, es2, l2⟩, bB v]) (nbB := 4) (fun dead => dt_two_f2 dead h s oa na ca ob nn cb ty fr es l ty2 fr2 es2 l2 v m) ?_ (kst_ok rfl (memOK4 (Nat.le_refl _) rfl (okL_mono noP_below hok) (okL_mono noP_below hok2) rfl)) (Nat.le_refl _)
      rw [decide_eq_false (show ¬ ((m : Int) < (nn : Int)) by omega), decide_eq_true (show ((m : Int) < (na : Int)) by omega)]; simp
    · refine To.exec (z := Zl) sound68 (slots := [0, 1, 9]) (blks := [0, 1, 2, 3]) (vs := [A0, I s, P3]) (bs := [flag TY h, ⟨ty, fr, es, l⟩, ⟨ty2, fr2, es2, l2⟩, bB v]) (nbB := 4) (fun dead => dt_two_f3 dead h s oa na ca ob nn cb ty fr es l ty2 fr2 es2 l2 v m) ?_ (kst_ok rfl (memOK4 (Nat.le_refl _) rfl (okL_mono noP_below hok) (okL_mono noP_below hok2) rfl)) (Nat.le_refl _)
      rw [decide_eq_false (show ¬ ((m : Int) < 100) by omega), decide_eq_true (show ((m : Int) < (nn : Int)) by omega), decide_eq_true (show ((m : Int) < (na : Int)) by omega)]; simp
theorem qRdtwo (k1 k2 : Blk) (s : Int) (oa na ca ob nn cb : Nat) (xs ys : List Int) (hx : SlAt 1 k1 oa na xs) (hy : SlAt 1 k2 ob nn ys) (hb : Bool) (m : Nat) (hm : m = min (min na nn) 100) : ∀ (j i : Nat), i + j = m →
    Rd Try.prog 59 (c1 (c1 (c2 (c1 dtBd)))) (j + 1) (qAtwo k1 k2 s oa na ca ob nn cb (hb || dotFl (xs.take i) (ys.take i)) (dotS (xs.take i) (ys.take i)) i) (.exit 0) (qBtwo k1 k2 s (hb || dotFl (xs.take m) (ys.take m)) (dotS (xs.take m) (ys.take m)))
  | 0, i, h => by
    have hi : i = m := by omega
    rw [hi]
    exact Rd.last (by simp) (qEndtwo k1 k2 s oa na ca ob nn cb hx.2.2 hy.2.2 _ _ m hm)
  | j + 1, i, h => Rd.next (qSteptwo k1 k2 s oa na ca ob nn cb xs ys hx hy hb m (by omega) (by omega) (by omega) i (by omega)) (qRdtwo k1 k2 s oa na ca ob nn cb xs ys hx hy hb m hm j (i + 1) (by omega))

theorem qIntwo (k1 k2 : Blk) (s : Int) (h0 : 0 ≤ s) (h1 : s ≤ 120) (oa na ca ob nn cb : Nat) (xs ys : List Int) (hx : SlAt 1 k1 oa na xs) (hy : SlAt 1 k2 ob nn ys) (hb : Bool) (E : Env) (w : World) (hrel : Rel E (getM [(0, flag TY hb), (1, k1), (2, k2)]) w) :
    Calls Try.prog 31 ((A0 :: ([I s] ++ [SLX 1 oa na ca, SLX 2 ob nn cb])).map (LV.den E)).toArray w fun e w' => e = .returned ((I (dotV s xs ys)).den E0) ∧ Lcl E [(0, flag TY hb), (1, k1), (2, k2)] [(0, flag TY (hb || dotH s xs ys)), (1, k1), (2, k2)] w w' := by
  have hxl : xs.length = na := by have := hx.1; omega
  have hyl : ys.length = nn := by have := hy.1; omega
  have hok := hx.2.2
  have hok2 := hy.2.2
  have hR := qRdtwo k1 k2 s oa na ca ob nn cb xs ys hx hy hb (min (min na nn) 100) rfl (min (min na nn) 100) 0 (by omega)
  have hmin := dot_min xs ys (min (min na nn) 100) 100 (by omega) (by omega)
  rw [hmin.1, hmin.2] at hR
  generalize min (min na nn) 100 = m at *
  have b0 := dotS_bd (xs.take 100) (ys.take 100)
  rw [List.length_take] at b0
  have hV : dotV s xs ys = rndS (dotS (xs.take 100) (ys.take 100)) s := rfl
  have hH : (hb || dotH s xs ys) = ((hb || dotFl (xs.take 100) (ys.take 100)) || rndH (dotS (xs.take 100) (ys.take 100)) s) := by unfold dotH; rw [Bool.or_assoc]
  rw [hV, hH]
  generalize dotS (xs.take 100) (ys.take 100) = D at *
  obtain ⟨bD0, bD1⟩ := dot_bdn (k := 0) b0
  have c0 : absV D ≤ 340282366920938463463374607431768211456 := absV_le (by omega) (by omega)
  obtain ⟨f1, f2, f3, f4⟩ := q0_in c0 h0 h1
  obtain ⟨ty, fr, es, l⟩ := k1
  obtain ⟨ty2, fr2, es2, l2⟩ := k2
  refine lcl_of_To (c := bodyF Try.prog 31) (e := .ret) (nb := 3) (B := ⟨[(8, I (rndS D s))], [(0, flag TY ((hb || dotFl (xs.take 100) (ys.take 100)) || rndH D s)), (1, ⟨ty, fr, es, l⟩), (2, ⟨ty2, fr2, es2, l2⟩)], 4⟩) Try.func31 (by kernel_rfl) (Nat.le_of_ble_eq_true (by kernel_rfl)) (Nat.le_of_ble_eq_true (by kernel_rfl))
    (fun u hu => ?_) (memOK3 (Nat.le_refl _) rfl (okL_mono noP_below hok) (okL_mono noP_below hok2)) ?_ (.inr rfl) (fun dead => by kernel_rfl) rfl (fun i b hib => ?_) E w hrel
  · simp only [List.cons_append, List.nil_append, List.mem_cons, List.not_mem_nil, or_false] at hu
    rcases hu with rfl | rfl | rfl | rfl <;> rfl
  · refine To.spineR (z := Zl) sound68 (k := 3) (slots := [0, 1, 2, 3, 9]) (blks := [0, 1, 2, 3]) (vs := [A0, I s, SLX 1 oa na ca, SLX 2 ob nn cb, P3]) (bs := [flag TY hb, ⟨ty, fr, es, l⟩, ⟨ty2, fr2, es2, l2⟩, bB 0]) (nbB := 4) (by kernel_rfl) (fun dead => dt_two_a dead hb s oa na ca ob nn cb ty fr es l ty2 fr2 es2 l2) rfl rfl rfl (cq_tl h0 h1) (kst_ok rfl (memOK4 (Nat.le_refl _) rfl (okL_mono noP_below hok) (okL_mono noP_below hok2) rfl)) (Nat.le_succ 3) ?_
    refine To.seq (by kernel_rfl) (To.seq (by kernel_rfl) (To.run (z := Zl) sound68 (slots := [0, 1, 2, 3, 9, 10]) (blks := [0, 1, 2, 3]) (vs := [A0, I s, SLX 1 oa na ca, SLX 2 ob nn cb, P3, I 0]) (bs := [flag TY hb, ⟨ty, fr, es, l⟩, ⟨ty2, fr2, es2, l2⟩, bB 0]) (nbB := 4) (fun dead => dt_two_b dead hb s oa na ca ob nn cb ty fr es l ty2 fr2 es2 l2) rfl rfl rfl ae_nil (kst_ok rfl (memOK4 (Nat.le_refl _) rfl (okL_mono noP_below hok) (okL_mono noP_below hok2) rfl)) (Nat.le_refl _))
      (To.block (id := 0) (by kernel_rfl) (To.loop (m := m + 1) (by kernel_rfl) ?_) (.inl rfl))) (C := _) (B := qBtwo ⟨ty, fr, es, l⟩ ⟨ty2, fr2, es2, l2⟩ s (hb || dotFl (xs.take 100) (ys.take 100)) D) ?_
    · simp only [List.take_zero, dotFl, Bool.or_false, dotS] at hR
      exact hR
    · refine To.run (z := Zl) sound68 (slots := [8]) (blks := [0, 1, 2]) (vs := [I (rndS D s)]) (bs := [flag TY ((hb || dotFl (xs.take 100) (ys.take 100)) || rndH D s), ⟨ty, fr, es, l⟩, ⟨ty2, fr2, es2, l2⟩]) (nbB := 4) (fun dead => dt_two_e dead (hb || dotFl (xs.take 100) (ys.take 100)) s oa na ca ob nn cb ty fr es l ty2 fr2 es2 l2 D) rfl ?_ ?_ ?_ (kst_ok rfl (memOK3 (Nat.le_of_ble_eq_true rfl) rfl (okL_mono noP_below hok) (okL_mono noP_below hok2))) (Nat.le_refl _)
      · rw [f1]
      · rw [f2]; rfl
      · exact ae_cons f3 (ae_cons f4 ae_nil)
  · rcases get3 hib with ⟨rfl, rfl⟩ | ⟨rfl, rfl⟩ | ⟨rfl, rfl⟩
    · exact ⟨rfl, by decide, rfl⟩
    · exact ⟨rfl, by decide, okL_mono noP_below hok⟩
    · exact ⟨rfl, by decide, okL_mono noP_below hok2⟩

def qAone (k1 : Blk) (s : Int) (oa na ca ob nn cb : Nat) (h : Bool) (v i : Int) : Kst := ⟨[(0, A0), (1, I s), (2, SLX 1 oa na ca), (3, SLX 1 ob nn cb), (9, P3), (10, I i)], [(0, flag TY h), (1, k1), (3, bB v)], 4⟩
def qBone (k1 : Blk) (s : Int) (h : Bool) (v : Int) : Kst := ⟨[(0, A0), (1, I s), (9, P3)], [(0, flag TY h), (1, k1), (3, bB v)], 4⟩
theorem qStepone (k1 : Blk) (s : Int) (oa na ca ob nn cb : Nat) (xs ys : List Int) (hx : SlAt 1 k1 oa na xs) (hy : SlAt 1 k1 ob nn ys) (hb : Bool) (m : Nat) (hm : m ≤ 100) (hma : m ≤ na) (hmb : m ≤ nn) (i : Nat) (hi : i < m) :
    To Try.prog 59 (c1 (c1 (c2 (c1 dtBd)))) (qAone k1 s oa na ca ob nn cb (hb || dotFl (xs.take i) (ys.take i)) (dotS (xs.take i) (ys.take i)) i) .normal (qAone k1 s oa na ca ob nn cb (hb || dotFl (xs.take (i + 1)) (ys.take (i + 1))) (dotS (xs.take (i + 1)) (ys.take (i + 1))) ((i : Int) + 1)) := by
  obtain ⟨hlen, hat, hok⟩ := hx
  obtain ⟨hlen2, hat2, -⟩ := hy
  have ix : i < xs.length := by omega
  have iy : i < ys.length := by omega
  have hx := intAt_of (hat i ix)
  have hy := intAt_of (hat2 i iy)
  have b0 := dotS_bd (xs.take i) (ys.take i)
  rw [List.length_take] at b0
  have b1 := satsat xs[i] ys[i]
  have hmi : ((min i xs.length : Nat) : Int) = i := by omega
  rw [hmi] at b0
  have e0 : (xs.take i).length = (ys.take i).length := by simp only [List.length_take]; omega
  have e1 : dotS (xs.take (i + 1)) (ys.take (i + 1)) = dotS (xs.take i) (ys.take i) + satV xs[i] * satV ys[i] := by rw [take_snoc xs i ix, take_snoc ys i iy, dotS_app _ _ _ _ e0]
  have e2 : (hb || dotFl (xs.take (i + 1)) (ys.take (i + 1))) = (((hb || dotFl (xs.take i) (ys.take i)) || satH xs[i]) || satH ys[i]) := by rw [take_snoc xs i ix, take_snoc ys i iy, dotFl_app _ _ _ _ e0]; simp [Bool.or_assoc]
  have e3 : ((i : Int)).toNat * 1 = i := by simp
  have e4 : wr .i64 ((i : Int) + 1) = (i : Int) + 1 := w64_in (by omega) (by omega)
  have hI := i64sat xs[i]
  have hI2 := i64sat ys[i]
  have a0 := sat_bd xs[i]
  have a1 := sat_bd ys[i]
  have s0 : absV (satV xs[i]) ≤ 1152921504606846976 := absV_le (by omega) (by omega)
  have s1 : absV (satV ys[i]) ≤ 1152921504606846976 := absV_le (by omega) (by omega)
  obtain ⟨ty, fr, es, l⟩ := k1
  rw [e1, e2]
  generalize dotS (xs.take i) (ys.take i) = D at *
  obtain ⟨⟨bD0, bD1⟩, ⟨bp0, bp1⟩, bs0, bs1⟩ := dot_bds hi hm b0 b1
  have c0 : absV D ≤ 340282366920938463463374607431768211456 := absV_le (by omega) (by omega)
  have c1' : absV (satV xs[i] * satV ys[i]) ≤ 340282366920938463463374607431768211456 := absV_le (by omega) (by omega)
  have j0 : (0 : Int) ≤ (i : Int) := Int.natCast_nonneg i
  have j1 : (i : Int) < (na : Int) := Int.ofNat_lt.2 (Nat.lt_of_lt_of_le hi hma)
  have j2 : (i : Int) < (nn : Int) := Int.ofNat_lt.2 (Nat.lt_of_lt_of_le hi hmb)
  have j3 : (i : Int) < 100 := Int.ofNat_lt.2 (Nat.lt_of_lt_of_le hi hm)
  have t0 := bv_sm (v := satV xs[i]) (by omega)
  have t1 := bv_sm (v := satV ys[i]) (by omega)
  have t2 := bv_sm c0
  have t3 := bv_sm c1'
  refine To.run (z := Zl) sound68 (slots := [0, 1, 2, 3, 9, 10]) (blks := [0, 1, 3]) (vs := [A0, I s, SLX 1 oa na ca, SLX 1 ob nn cb, P3, I ((i : Int) + 1)])
    (bs := [flag TY (((hb || dotFl (xs.take i) (ys.take i)) || satH xs[i]) || satH ys[i]), ⟨ty, fr, es, l⟩, bB (D + satV xs[i] * satV ys[i])]) (nbB := 4)
    (fun dead => dt_one_c dead (hb || dotFl (xs.take i) (ys.take i)) s oa na ca ob nn cb ty fr es l 0 (0, 0) 0 [] D i) rfl (by rw [e4]) (by rw [e3, hx.1, hy.1]; simp only [bq, t0, t1, t2, t3]; rfl) ?_ (kst_ok rfl (memOK3' (Nat.le_refl _) rfl (okL_mono noP_below hok) rfl)) (Nat.le_refl _)
  rw [e3, hx.1, hx.2, hy.1, hy.2, hI, hI2, mul_sm s0 s1]
  have ad := add_sm c0 c1'
  have ja : decide ((i : Int) < (na : Int)) = true := decide_eq_true j1
  have jb : decide ((i : Int) < (nn : Int)) = true := decide_eq_true j2
  have jc : decide ((i : Int) < 100) = true := decide_eq_true j3
  have jd : decide ((0 : Int) ≤ (i : Int)) = true := decide_eq_true j0
  rw [ja, jb, jc, jd]
  refine ae_cons ?_ (by simp)
  show addAsk D (bq (satV xs[i]) * bq (satV ys[i])) = true
  rw [show bq (satV xs[i]) = satV xs[i] from t0, show bq (satV ys[i]) = satV ys[i] from t1]
  exact ad
theorem qEndone (k1 : Blk) (s : Int) (oa na ca ob nn cb : Nat) (hok : okL noP k1.cells = true) (h : Bool) (v : Int) (m : Nat) (hm : m = min (min na nn) 100) : To Try.prog 59 (c1 (c1 (c2 (c1 dtBd)))) (qAone k1 s oa na ca ob nn cb h v m) (.exit 0) (qBone k1 s h v) := by
  obtain ⟨ty, fr, es, l⟩ := k1
  by_cases g1 : na ≤ m
  · refine To.exec (z := Zl) sound68 (slots := [0, 1, 9]) (blks := [0, 1, 3]) (vs := [A0, I s, P3]) (bs := [flag TY h, ⟨ty, fr, es, l⟩, bB v]) (nbB := 4) (fun dead => dt_one_f1 dead h s oa na ca ob nn cb ty fr es l 0 (0, 0) 0 [] v m) ?_ (kst_ok rfl (memOK3' (Nat.le_refl _) rfl (okL_mono noP_below hok) rfl)) (Nat.le_refl _)
    rw [decide_eq_false (show ¬ ((m : Int) < (na : Int)) by omega)]; simp
  · by_cases g2 : nn ≤ m
    · refine To.exec (z := Zl) sound68 (slots := [0, 1, 9]) (blks := [0, 1, 3]) (vs := [A0, I s, P3]) (bs := [flag TY h, ⟨ty, fr, es, l⟩, bB v]) (nbB := 4) (fun dead => dt_one_f2 dead h s oa na ca ob nn cb ty fr es l 0 (0, 0) 0 [] v m) ?_ (kst_ok rfl (memOK3' (Nat.le_refl _) rfl (okL_mono noP_below hok) rfl)) (Nat.le_refl _)
      rw [decide_eq_false (show ¬ ((m : Int) < (nn : Int)) by omega), decide_eq_true (show ((m : Int) < (na : Int)) by omega)]; simp
    · refine To.exec (z := Zl) sound68 (slots := [0, 1, 9]) (blks := [0, 1, 3]) (vs := [A0, I s, P3]) (bs := [flag TY h, ⟨ty, fr, es, l⟩, bB v]) (nbB := 4) (fun dead => dt_one_f3 dead h s oa na ca ob nn cb ty fr es l 0 (0, 0) 0 [] v m) ?_ (kst_ok rfl (memOK3' (Nat.le_refl _) rfl (okL_mono noP_below hok) rfl)) (Nat.le_refl _)
      rw [decide_eq_false (show ¬ ((m : Int) < 100) by omega), decide_eq_true (show ((m : Int) < (nn : Int)) by omega), decide_eq_true (show ((m : Int) < (na : Int)) by omega)]; simp
theorem qRdone (k1 : Blk) (s : Int) (oa na ca ob nn cb : Nat) (xs ys : List Int) (hx : SlAt 1 k1 oa na xs) (hy : SlAt 1 k1 ob nn ys) (hb : Bool) (m : Nat) (hm : m = min (min na nn) 100) : ∀ (j i : Nat), i + j = m →
    Rd Try.prog 59 (c1 (c1 (c2 (c1 dtBd)))) (j + 1) (qAone k1 s oa na ca ob nn cb (hb || dotFl (xs.take i) (ys.take i)) (dotS (xs.take i) (ys.take i)) i) (.exit 0) (qBone k1 s (hb || dotFl (xs.take m) (ys.take m)) (dotS (xs.take m) (ys.take m)))
  | 0, i, h => by
    have hi : i = m := by omega
    rw [hi]
    exact Rd.last (by simp) (qEndone k1 s oa na ca ob nn cb hx.2.2 _ _ m hm)
  | j + 1, i, h => Rd.next (qStepone k1 s oa na ca ob nn cb xs ys hx hy hb m (by omega) (by omega) (by omega) i (by omega)) (qRdone k1 s oa na ca ob nn cb xs ys hx hy hb m hm j (i + 1) (by omega))

theorem qInone (k1 : Blk) (s : Int) (h0 : 0 ≤ s) (h1 : s ≤ 120) (oa na ca ob nn cb : Nat) (xs ys : List Int) (hx : SlAt 1 k1 oa na xs) (hy : SlAt 1 k1 ob nn ys) (hb : Bool) (E : Env) (w : World) (hrel : Rel E (getM [(0, flag TY hb), (1, k1)]) w) :
    Calls Try.prog 31 ((A0 :: ([I s] ++ [SLX 1 oa na ca, SLX 1 ob nn cb])).map (LV.den E)).toArray w fun e w' => e = .returned ((I (dotV s xs ys)).den E0) ∧ Lcl E [(0, flag TY hb), (1, k1)] [(0, flag TY (hb || dotH s xs ys)), (1, k1)] w w' := by
  have hxl : xs.length = na := by have := hx.1; omega
  have hyl : ys.length = nn := by have := hy.1; omega
  have hok := hx.2.2
  have hok2 := hy.2.2
  have hR := qRdone k1 s oa na ca ob nn cb xs ys hx hy hb (min (min na nn) 100) rfl (min (min na nn) 100) 0 (by omega)
  have hmin := dot_min xs ys (min (min na nn) 100) 100 (by omega) (by omega)
  rw [hmin.1, hmin.2] at hR
  generalize min (min na nn) 100 = m at *
  have b0 := dotS_bd (xs.take 100) (ys.take 100)
  rw [List.length_take] at b0
  have hV : dotV s xs ys = rndS (dotS (xs.take 100) (ys.take 100)) s := rfl
  have hH : (hb || dotH s xs ys) = ((hb || dotFl (xs.take 100) (ys.take 100)) || rndH (dotS (xs.take 100) (ys.take 100)) s) := by unfold dotH; rw [Bool.or_assoc]
  rw [hV, hH]
  generalize dotS (xs.take 100) (ys.take 100) = D at *
  obtain ⟨bD0, bD1⟩ := dot_bdn (k := 0) b0
  have c0 : absV D ≤ 340282366920938463463374607431768211456 := absV_le (by omega) (by omega)
  obtain ⟨f1, f2, f3, f4⟩ := q0_in c0 h0 h1
  obtain ⟨ty, fr, es, l⟩ := k1
  refine lcl_of_To (c := bodyF Try.prog 31) (e := .ret) (nb := 3) (B := ⟨[(8, I (rndS D s))], [(0, flag TY ((hb || dotFl (xs.take 100) (ys.take 100)) || rndH D s)), (1, ⟨ty, fr, es, l⟩)], 4⟩) Try.func31 (by kernel_rfl) (Nat.le_of_ble_eq_true (by kernel_rfl)) (Nat.le_of_ble_eq_true (by kernel_rfl))
    (fun u hu => ?_) (memOK2 (Nat.le_of_ble_eq_true rfl) rfl (okL_mono noP_below hok)) ?_ (.inr rfl) (fun dead => by kernel_rfl) rfl (fun i b hib => ?_) E w hrel
  · simp only [List.cons_append, List.nil_append, List.mem_cons, List.not_mem_nil, or_false] at hu
    rcases hu with rfl | rfl | rfl | rfl <;> rfl
  · refine To.spineR (z := Zl) sound68 (k := 3) (slots := [0, 1, 2, 3, 9]) (blks := [0, 1, 3]) (vs := [A0, I s, SLX 1 oa na ca, SLX 1 ob nn cb, P3]) (bs := [flag TY hb, ⟨ty, fr, es, l⟩, bB 0]) (nbB := 4) (by kernel_rfl) (fun dead => dt_one_a dead hb s oa na ca ob nn cb ty fr es l 0 (0, 0) 0 []) rfl rfl rfl (cq_tl h0 h1) (kst_ok rfl (memOK3' (Nat.le_refl _) rfl (okL_mono noP_below hok) rfl)) (Nat.le_succ 3) ?_
    refine To.seq (by kernel_rfl) (To.seq (by kernel_rfl) (To.run (z := Zl) sound68 (slots := [0, 1, 2, 3, 9, 10]) (blks := [0, 1, 3]) (vs := [A0, I s, SLX 1 oa na ca, SLX 1 ob nn cb, P3, I 0]) (bs := [flag TY hb, ⟨ty, fr, es, l⟩, bB 0]) (nbB := 4) (fun dead => dt_one_b dead hb s oa na ca ob nn cb ty fr es l 0 (0, 0) 0 []) rfl rfl rfl ae_nil (kst_ok rfl (memOK3' (Nat.le_refl _) rfl (okL_mono noP_below hok) rfl)) (Nat.le_refl _))
      (To.block (id := 0) (by kernel_rfl) (To.loop (m := m + 1) (by kernel_rfl) ?_) (.inl rfl))) (C := _) (B := qBone ⟨ty, fr, es, l⟩ s (hb || dotFl (xs.take 100) (ys.take 100)) D) ?_
    · simp only [List.take_zero, dotFl, Bool.or_false, dotS] at hR
      exact hR
    · refine To.run (z := Zl) sound68 (slots := [8]) (blks := [0, 1]) (vs := [I (rndS D s)]) (bs := [flag TY ((hb || dotFl (xs.take 100) (ys.take 100)) || rndH D s), ⟨ty, fr, es, l⟩]) (nbB := 4) (fun dead => dt_one_e dead (hb || dotFl (xs.take 100) (ys.take 100)) s oa na ca ob nn cb ty fr es l 0 (0, 0) 0 [] D) rfl ?_ ?_ ?_ (kst_ok rfl (memOK2 (Nat.le_of_ble_eq_true rfl) rfl (okL_mono noP_below hok))) (Nat.le_refl _)
      · rw [f1]
      · rw [f2]; rfl
      · exact ae_cons f3 (ae_cons f4 ae_nil)
  · rcases get2 hib with ⟨rfl, rfl⟩ | ⟨rfl, rfl⟩
    · exact ⟨rfl, by decide, rfl⟩
    · exact ⟨rfl, by decide, okL_mono noP_below hok⟩

def dot8S : List AV → Bool → Option (LV × Bool × List (Bool × Bool))
  | [.pl (.v (.one (.int .i64 s))), .ints xs, .ints ys], hb => some (I (dotV s xs ys), hb || dotH s xs ys, [])
  | _, _ => none
theorem sumDotB : SumOK Try.prog 31 (acSum TY 1 dot8S) := by
  refine acSum2_ok (own_of sound68 Try.func31 (by kernel_rfl)) (fun avs hb r h => ?_) fun pre xs ys hb v h' cs hF hcc hp hv => ?_
  · unfold dot8S at h
    split at h
    · exact ⟨[_], _, _, rfl⟩
    · cases h
  · have hpre : ∃ s, pre = [I s] := by
      match pre with
      | [] => simp [dot8S] at hF
      | [p] =>
        simp only [List.map_cons, List.map_nil, List.cons_append, List.nil_append] at hF
        unfold dot8S at hF
        split at hF
        · rename_i he
          simp only [List.cons.injEq, AV.pl.injEq] at he
          obtain ⟨e, -⟩ := he
          exact ⟨_, by rw [e]; rfl⟩
        · cases hF
      | p :: q :: r => simp [dot8S] at hF
    obtain ⟨s, rfl⟩ := hpre
    have hF' : some (I (dotV s xs ys), hb || dotH s xs ys, []) = some (v, h', cs) := hF
    cases hF'
    have hargs : ∀ (p q : LV) (nb : Nat), p.ok (below nb) = true → q.ok (below nb) = true → 1 ≤ nb → ∀ u ∈ A0 :: ([I s] ++ [p, q]), u.ok (below nb) = true := by
      intro p q nb hp hq hn u hu
      simp only [List.cons_append, List.nil_append, List.mem_cons, List.not_mem_nil, or_false] at hu
      rcases hu with rfl | rfl | rfl | rfl
      · simp [A0, LV.ok, V1.ok, At.ok, below, nblt]; omega
      · rfl
      · exact hp
      · exact hq
    have hs : s < 0 ∨ s > 120 ∨ (0 ≤ s ∧ s ≤ 120) := by omega
    refine ⟨fun k1 oa na ca k2 ob nn cb hx hy E w hrel => ?_, fun k1 oa na ca ob nn cb hx hy E w hrel => ?_, fun hx k1 ob nn cb hy E w hrel => ?_, fun hy k1 oa na ca hx E w hrel => ?_, fun hx hy E w hrel => ?_⟩
    · have hok := hx.2.2
      have hok2 := hy.2.2
      obtain ⟨ty, fr, es, l⟩ := k1
      obtain ⟨ty2, fr2, es2, l2⟩ := k2
      rcases hs with h | h | ⟨h0, h1⟩
      · have hd := q0_out (.inl h) xs ys hb
        rw [← hd.1, ← hd.2]
        refine lcl3 sound68 (dq_two_neg hb s oa na ca ob nn cb ty fr es l ty2 fr2 es2 l2) (fun i b hib => ?_) (cq_neg h) (memOK3 (Nat.le_refl _) rfl (okL_mono noP_below hok) (okL_mono noP_below hok2)) (hargs _ _ _ rfl rfl (by decide)) rfl E w hrel
        rcases get3 hib with ⟨rfl, rfl⟩ | ⟨rfl, rfl⟩ | ⟨rfl, rfl⟩
        · exact ⟨.inl ⟨rfl, rfl⟩, by decide, rfl⟩
        · exact ⟨.inr (.inl ⟨rfl, rfl⟩), by decide, okL_mono noP_below hok⟩
        · exact ⟨.inr (.inr ⟨rfl, rfl⟩), by decide, okL_mono noP_below hok2⟩
      · have hd := q0_out (.inr h) xs ys hb
        rw [← hd.1, ← hd.2]
        refine lcl3 sound68 (dq_two_big hb s oa na ca ob nn cb ty fr es l ty2 fr2 es2 l2) (fun i b hib => ?_) (cq_big h) (memOK3 (Nat.le_refl _) rfl (okL_mono noP_below hok) (okL_mono noP_below hok2)) (hargs _ _ _ rfl rfl (by decide)) rfl E w hrel
        rcases get3 hib with ⟨rfl, rfl⟩ | ⟨rfl, rfl⟩ | ⟨rfl, rfl⟩
        · exact ⟨.inl ⟨rfl, rfl⟩, by decide, rfl⟩
        · exact ⟨.inr (.inl ⟨rfl, rfl⟩), by decide, okL_mono noP_below hok⟩
        · exact ⟨.inr (.inr ⟨rfl, rfl⟩), by decide, okL_mono noP_below hok2⟩
      · exact qIntwo ⟨ty, fr, es, l⟩ ⟨ty2, fr2, es2, l2⟩ s h0 h1 oa na ca ob nn cb xs ys hx hy hb E w hrel
    · have hok := hx.2.2
      obtain ⟨ty, fr, es, l⟩ := k1
      rcases hs with h | h | ⟨h0, h1⟩
      · have hd := q0_out (.inl h) xs ys hb
        rw [← hd.1, ← hd.2]
        refine lcl3b sound68 (dq_one_neg hb s oa na ca ob nn cb ty fr es l 0 (0, 0) 0 []) (fun i b hib => ?_) (cq_neg h) (memOK2 (Nat.le_of_ble_eq_true rfl) rfl (okL_mono noP_below hok)) (hargs _ _ _ rfl rfl (by decide)) rfl E w hrel
        rcases get2 hib with ⟨rfl, rfl⟩ | ⟨rfl, rfl⟩
        · exact ⟨.inl ⟨rfl, rfl⟩, by decide, rfl⟩
        · exact ⟨.inr ⟨rfl, rfl⟩, by decide, okL_mono noP_below hok⟩
      · have hd := q0_out (.inr h) xs ys hb
        rw [← hd.1, ← hd.2]
        refine lcl3b sound68 (dq_one_big hb s oa na ca ob nn cb ty fr es l 0 (0, 0) 0 []) (fun i b hib => ?_) (cq_big h) (memOK2 (Nat.le_of_ble_eq_true rfl) rfl (okL_mono noP_below hok)) (hargs _ _ _ rfl rfl (by decide)) rfl E w hrel
        rcases get2 hib with ⟨rfl, rfl⟩ | ⟨rfl, rfl⟩
        · exact ⟨.inl ⟨rfl, rfl⟩, by decide, rfl⟩
        · exact ⟨.inr ⟨rfl, rfl⟩, by decide, okL_mono noP_below hok⟩
      · exact qInone ⟨ty, fr, es, l⟩ s h0 h1 oa na ca ob nn cb xs ys hx hy hb E w hrel
    · have hok := hy.2.2
      obtain ⟨ty, fr, es, l⟩ := k1
      rcases hs with h | h | ⟨h0, h1⟩
      · have hd := q0_out (.inl h) xs ys hb
        rw [← hd.1, ← hd.2]
        refine lcl3b sound68 (dq_right_neg hb s 0 0 0 ob nn cb ty fr es l 0 (0, 0) 0 []) (fun i b hib => ?_) (cq_neg h) (memOK2 (Nat.le_of_ble_eq_true rfl) rfl (okL_mono noP_below hok)) (hargs _ _ _ rfl rfl (by decide)) rfl E w hrel
        rcases get2 hib with ⟨rfl, rfl⟩ | ⟨rfl, rfl⟩
        · exact ⟨.inl ⟨rfl, rfl⟩, by decide, rfl⟩
        · exact ⟨.inr ⟨rfl, rfl⟩, by decide, okL_mono noP_below hok⟩
      · have hd := q0_out (.inr h) xs ys hb
        rw [← hd.1, ← hd.2]
        refine lcl3b sound68 (dq_right_big hb s 0 0 0 ob nn cb ty fr es l 0 (0, 0) 0 []) (fun i b hib => ?_) (cq_big h) (memOK2 (Nat.le_of_ble_eq_true rfl) rfl (okL_mono noP_below hok)) (hargs _ _ _ rfl rfl (by decide)) rfl E w hrel
        rcases get2 hib with ⟨rfl, rfl⟩ | ⟨rfl, rfl⟩
        · exact ⟨.inl ⟨rfl, rfl⟩, by decide, rfl⟩
        · exact ⟨.inr ⟨rfl, rfl⟩, by decide, okL_mono noP_below hok⟩
      · have hd := q0_nil (s := s) (xs := xs) (ys := ys) (.inl hx) h0 h1 hb
        rw [← hd.1, ← hd.2.1]
        refine lcl3b sound68 (dq_right_in hb s 0 0 0 ob nn cb ty fr es l 0 (0, 0) 0 []) (fun i b hib => ?_) (ae_cons hd.2.2.1 (ae_cons hd.2.2.2 (cq_tl h0 h1))) (memOK2 (Nat.le_of_ble_eq_true rfl) rfl (okL_mono noP_below hok)) (hargs _ _ _ rfl rfl (by decide)) rfl E w hrel
        rcases get2 hib with ⟨rfl, rfl⟩ | ⟨rfl, rfl⟩
        · exact ⟨.inl ⟨rfl, rfl⟩, by decide, rfl⟩
        · exact ⟨.inr ⟨rfl, rfl⟩, by decide, okL_mono noP_below hok⟩
    · have hok := hx.2.2
      obtain ⟨ty, fr, es, l⟩ := k1
      rcases hs with h | h | ⟨h0, h1⟩
      · have hd := q0_out (.inl h) xs ys hb
        rw [← hd.1, ← hd.2]
        refine lcl3b sound68 (dq_left_neg hb s oa na ca 0 0 0 ty fr es l 0 (0, 0) 0 []) (fun i b hib => ?_) (cq_neg h) (memOK2 (Nat.le_of_ble_eq_true rfl) rfl (okL_mono noP_below hok)) (hargs _ _ _ rfl rfl (by decide)) rfl E w hrel
        rcases get2 hib with ⟨rfl, rfl⟩ | ⟨rfl, rfl⟩
        · exact ⟨.inl ⟨rfl, rfl⟩, by decide, rfl⟩
        · exact ⟨.inr ⟨rfl, rfl⟩, by decide, okL_mono noP_below hok⟩
      · have hd := q0_out (.inr h) xs ys hb
        rw [← hd.1, ← hd.2]
        refine lcl3b sound68 (dq_left_big hb s oa na ca 0 0 0 ty fr es l 0 (0, 0) 0 []) (fun i b hib => ?_) (cq_big h) (memOK2 (Nat.le_of_ble_eq_true rfl) rfl (okL_mono noP_below hok)) (hargs _ _ _ rfl rfl (by decide)) rfl E w hrel
        rcases get2 hib with ⟨rfl, rfl⟩ | ⟨rfl, rfl⟩
        · exact ⟨.inl ⟨rfl, rfl⟩, by decide, rfl⟩
        · exact ⟨.inr ⟨rfl, rfl⟩, by decide, okL_mono noP_below hok⟩
      · by_cases gg : (0 : Int) < (na : Int)
        · have q := decide_eq_true gg
          have hd := q0_nil (s := s) (xs := xs) (ys := ys) (.inr hy) h0 h1 hb
          rw [← hd.1, ← hd.2.1]
          refine lcl3b sound68 (dq_left_in1 hb s oa na ca 0 0 0 ty fr es l 0 (0, 0) 0 []) (fun i b hib => ?_) (ae_cons hd.2.2.1 (ae_cons hd.2.2.2 (ae_cons q (ae_cons q (ae_cons q (ae_cons q (ae_cons q (cq_tl h0 h1)))))))) (memOK2 (Nat.le_of_ble_eq_true rfl) rfl (okL_mono noP_below hok)) (hargs _ _ _ rfl rfl (by decide)) rfl E w hrel
          rcases get2 hib with ⟨rfl, rfl⟩ | ⟨rfl, rfl⟩
          · exact ⟨.inl ⟨rfl, rfl⟩, by decide, rfl⟩
          · exact ⟨.inr ⟨rfl, rfl⟩, by decide, okL_mono noP_below hok⟩
        · have q := decide_eq_false gg
          have hd := q0_nil (s := s) (xs := xs) (ys := ys) (.inr hy) h0 h1 hb
          rw [← hd.1, ← hd.2.1]
          refine lcl3b sound68 (dq_left_in0 hb s oa na ca 0 0 0 ty fr es l 0 (0, 0) 0 []) (fun i b hib => ?_) (ae_cons hd.2.2.1 (ae_cons hd.2.2.2 (ae_cons q (ae_cons q (ae_cons q (ae_cons q (ae_cons q (cq_tl h0 h1)))))))) (memOK2 (Nat.le_of_ble_eq_true rfl) rfl (okL_mono noP_below hok)) (hargs _ _ _ rfl rfl (by decide)) rfl E w hrel
          rcases get2 hib with ⟨rfl, rfl⟩ | ⟨rfl, rfl⟩
          · exact ⟨.inl ⟨rfl, rfl⟩, by decide, rfl⟩
          · exact ⟨.inr ⟨rfl, rfl⟩, by decide, okL_mono noP_below hok⟩
    · have hok := True.intro
      have l : List At := []
      rcases hs with h | h | ⟨h0, h1⟩
      · have hd := q0_out (.inl h) xs ys hb
        rw [← hd.1, ← hd.2]
        refine lcl3c sound68 (dq_none_neg hb s 0 0 0 0 0 0 0 (0, 0) 0 [] 0 (0, 0) 0 []) (fun i b hib => ?_) (cq_neg h) (memOK1 (Nat.le_of_ble_eq_true rfl) rfl) (hargs _ _ _ rfl rfl (by decide)) rfl E w hrel
        obtain ⟨rfl, rfl⟩ := get1 hib
        exact ⟨⟨rfl, rfl⟩, by decide, rfl⟩
      · have hd := q0_out (.inr h) xs ys hb
        rw [← hd.1, ← hd.2]
        refine lcl3c sound68 (dq_none_big hb s 0 0 0 0 0 0 0 (0, 0) 0 [] 0 (0, 0) 0 []) (fun i b hib => ?_) (cq_big h) (memOK1 (Nat.le_of_ble_eq_true rfl) rfl) (hargs _ _ _ rfl rfl (by decide)) rfl E w hrel
        obtain ⟨rfl, rfl⟩ := get1 hib
        exact ⟨⟨rfl, rfl⟩, by decide, rfl⟩
      · have hd := q0_nil (s := s) (xs := xs) (ys := ys) (.inl hx) h0 h1 hb
        rw [← hd.1, ← hd.2.1]
        refine lcl3c sound68 (dq_none_in hb s 0 0 0 0 0 0 0 (0, 0) 0 [] 0 (0, 0) 0 []) (fun i b hib => ?_) (ae_cons hd.2.2.1 (ae_cons hd.2.2.2 (cq_tl h0 h1))) (memOK1 (Nat.le_of_ble_eq_true rfl) rfl) (hargs _ _ _ rfl rfl (by decide)) rfl E w hrel
        obtain ⟨rfl, rfl⟩ := get1 hib
        exact ⟨⟨rfl, rfl⟩, by decide, rfl⟩

noncomputable def S69 : FuncId → Option SumK := more S68 31 (acSum TY 1 dot8S)
theorem sound69 : Sound Try.prog S69 := sound68.more sumDotB
end Go.Proofs.Ytnabopepomjncaa

/- Numbers of 256 bits (astrolaberef1): nought, Sub, Add, Mul, Abs. -/
namespace Go.Proofs.Ytnabopepomjncaa
open Go.Lr Go.Dg
set_option linter.unusedVariables false
set_option linter.unusedSimpArgs false

theorem b12n0 (n : Bool) (a0 a1 a2 a3 a4 a5 a6 a7 : Int) (hb : Bool) : (runF Try.prog S72 Zl 4000 66 [A0, .v (.agg [.bool n, .int .u64 a0, .int .u64 a1, .int .u64 a2, .int .u64 a3, .int .u64 a4, .int .u64 a5, .int .u64 a6, .int .u64 a7])] [(0, flag TY hb)] 1 (tt 1 [])).map acc3 = some (I 0, some (flag TY true), [(zB [a0, a1, a2, a3, a4, a5, a6, a7], true)]) := by kernel_rfl
theorem b12n1 (n : Bool) (a0 a1 a2 a3 a4 a5 a6 a7 : Int) (hb : Bool) : (runF Try.prog S72 Zl 4000 66 [A0, .v (.agg [.bool n, .int .u64 a0, .int .u64 a1, .int .u64 a2, .int .u64 a3, .int .u64 a4, .int .u64 a5, .int .u64 a6, .int .u64 a7])] [(0, flag TY hb)] 1 (ff 1 (tt 1 []))).map acc3 = some (I (-1152921504606846976), some (flag TY true), [(n, true), (zB [a0, a1, a2, a3, a4, a5, a6, a7], false)]) := by kernel_rfl
theorem b12n2 (n : Bool) (a0 a1 a2 a3 a4 a5 a6 a7 : Int) (hb : Bool) : (runF Try.prog S72 Zl 4000 66 [A0, .v (.agg [.bool n, .int .u64 a0, .int .u64 a1, .int .u64 a2, .int .u64 a3, .int .u64 a4, .int .u64 a5, .int .u64 a6, .int .u64 a7])] [(0, flag TY hb)] 1 (ff 2 [])).map acc3 = some (I 1152921504606846976, some (flag TY true), [(n, false), (zB [a0, a1, a2, a3, a4, a5, a6, a7], false)]) := by kernel_rfl
def noughtV (v : Int) : Int := if v = 0 then 0 else if v < 0 then -1152921504606846976 else 1152921504606846976
def nought8S : List LV → Bool → Option (LV × Bool × List (Bool × Bool))
  | [.v (.agg [.bool n, .int .u64 a0, .int .u64 a1, .int .u64 a2, .int .u64 a3, .int .u64 a4, .int .u64 a5, .int .u64 a6, .int .u64 a7])], hb => some (I (noughtV (bv n [a0, a1, a2, a3, a4, a5, a6, a7])), true, [(isDB [a0, a1, a2, a3, a4, a5, a6, a7], true)])
  | _, _ => none
theorem zB_from {l : List Int} (h : isD l) : zB l = decide (fromD l = 0) := by
  rw [Bool.eq_iff_iff, zB_iff h, decide_eq_true_eq]
theorem sumNoughtB : SumOK Try.prog 66 (accSum TY nought8S) := by
  refine accSum_run (z := Zl) sound72 (own_of sound72 Try.func66 (by kernel_rfl)) fun args hb v h' cs hF hc => ?_
  unfold nought8S at hF
  split at hF
  · rename_i n a0 a1 a2 a3 a4 a5 a6 a7
    cases hF
    have ha : isDB [a0, a1, a2, a3, a4, a5, a6, a7] = true := hc _ (List.mem_singleton.2 rfl)
    have hd := isDB_iff.1 ha
    have hbd := fromD_bd hd
    refine ⟨rfl, ?_⟩
    by_cases z : fromD [a0, a1, a2, a3, a4, a5, a6, a7] = 0
    · have e : noughtV (bv n [a0, a1, a2, a3, a4, a5, a6, a7]) = 0 := by
        unfold noughtV bv; rw [z]; cases n <;> rfl
      rw [e]
      exact ⟨4000, _, _, b12n0 n a0 a1 a2 a3 a4 a5 a6 a7 hb, ae_cons (by rw [zB_from hd, decide_eq_true z]) ae_nil⟩
    · have zz : zB [a0, a1, a2, a3, a4, a5, a6, a7] = false := by rw [zB_from hd, decide_eq_false z]
      cases n
      · have e : noughtV (bv false [a0, a1, a2, a3, a4, a5, a6, a7]) = 1152921504606846976 := by
          unfold noughtV bv; rw [cond_false, if_neg z, if_neg (by omega)]
        rw [e]
        exact ⟨4000, _, _, b12n2 false a0 a1 a2 a3 a4 a5 a6 a7 hb, ae_cons rfl (ae_cons zz ae_nil)⟩
      · have e : noughtV (bv true [a0, a1, a2, a3, a4, a5, a6, a7]) = -1152921504606846976 := by
          unfold noughtV bv; rw [cond_true, if_neg (by omega), if_pos (by omega)]
        rw [e]
        exact ⟨4000, _, _, b12n1 true a0 a1 a2 a3 a4 a5 a6 a7 hb, ae_cons rfl (ae_cons zz ae_nil)⟩
  · cases hF
theorem b12s (a b : Int) (hb : Bool) : (runF Try.prog S72 Zl 4000 21 [A0, I a, I b] [(0, flag TY hb)] 1 []).map acc3 = some (I (satV (bq (bq (satV a) + bq (-(bq (satV b)))))), some (flag TY (hb || satH a || satH b || satH (bq (bq (satV a) + bq (-(bq (satV b))))))), [(isDB (dig 8 (absV (bq (satV a) + bq (-(bq (satV b)))))), true), (addAsk (satV a) (-(bq (satV b))), true), (isDB (dig 8 (absV (satV b))), true), (i64B (satV b), true), (i64B (satV a), true)]) := by kernel_rfl
def sub8S : List LV → Bool → Option (LV × Bool × List (Bool × Bool))
  | [.v (.one (.int .i64 a)), .v (.one (.int .i64 b))], hb => some (I (subV a b), hb || subH a b, [])
  | _, _ => none
theorem absS_le (a : Int) : absV (satV a) ≤ 1152921504606846976 := by
  have := sat_bd a
  exact absV_le (by omega) (by omega)
theorem absV_negv (v : Int) : absV (-v) = absV v := by unfold absV; split <;> split <;> omega
theorem sumSubB : SumOK Try.prog 21 (accSum TY sub8S) := by
  refine accSum_run (z := Zl) sound72 (own_of sound72 Try.func21 (by kernel_rfl)) fun args hb v h' cs hF hc => ?_
  unfold sub8S at hF
  split at hF
  · rename_i a b
    cases hF
    refine ⟨rfl, ?_⟩
    have r := b12s a b hb
    have s0 := sat_bd a
    have s1 := sat_bd b
    have ea : bq (satV a) = satV a := bv_sm (by have := absS_le a; omega)
    have eb : bq (satV b) = satV b := bv_sm (by have := absS_le b; omega)
    have en : bq (-satV b) = -satV b := bv_sm (by rw [absV_negv]; have := absS_le b; omega)
    have ed : bq (satV a + -satV b) = satV a + -satV b := bv_sm (absV_le (by omega) (by omega))
    have k := add_sm (v := satV a) (w := -satV b) (by have := absS_le a; omega) (by rw [absV_negv]; have := absS_le b; omega)
    have k' : addAsk (satV a) (-satV b) = true := k
    rw [eb, ea, en, ed, k', i64sat, i64sat, isDBd, isDBd] at r
    have e : satV a + -satV b = satV a - satV b := by omega
    rw [e] at r
    have eh : (hb || satH a || satH b || satH (satV a - satV b)) = (hb || subH a b) := by unfold subH; simp [Bool.or_assoc]
    rw [eh] at r
    exact ⟨4000, _, _, r, by simp⟩
  · cases hF
theorem b12a (a b : Int) (hb : Bool) : (runF Try.prog S72 Zl 4000 19 [A0, I a, I b] [(0, flag TY hb)] 1 []).map acc3 = some (I (faddV [a, b]), some (flag TY (hb || faddH [a, b])), [(true, true)]) := by kernel_rfl
def addT8S : List LV → Bool → Option (LV × Bool × List (Bool × Bool))
  | [.v (.one (.int .i64 a)), .v (.one (.int .i64 b))], hb => some (I (faddV [a, b]), hb || faddH [a, b], [])
  | _, _ => none
theorem sumAddT : SumOK Try.prog 19 (accSum TY addT8S) := by
  refine accSum_run (z := Zl) sound72 (own_of sound72 Try.func19 (by kernel_rfl)) fun args hb v h' cs hF hc => ?_
  unfold addT8S at hF
  split at hF
  · rename_i a b
    cases hF
    exact ⟨rfl, 4000, _, _, b12a a b hb, by simp⟩
  · cases hF
theorem b12m0 (a b s : Int) (hb : Bool) : (runF Try.prog S72 Zl 4000 23 [A0, I a, I b, I s] [(0, flag TY hb)] 1 (tt 3 [])).map acc3 = some (I 0, some (flag TY true), [(decide (s < 0), true), (decide (s < 0), true), (decide (s < 0), true)]) := by kernel_rfl
theorem b12m1 (a b s : Int) (hb : Bool) : (runF Try.prog S72 Zl 4000 23 [A0, I a, I b, I s] [(0, flag TY hb)] 1 (ff 3 (tt 1 []))).map acc3 = some (I 0, some (flag TY true), [(decide (s > 120), true), (decide (s < 0), false), (decide (s < 0), false), (decide (s < 0), false)]) := by kernel_rfl
theorem b12m2 (a b s : Int) (hb : Bool) : (runF Try.prog S72 Zl 4000 23 [A0, I a, I b, I s] [(0, flag TY hb)] 1 (ff 4 [])).map acc3 = some (I (satV (bq (rndV (bq (bq (satV a) * bq (satV b))) s.toNat))), some (flag TY (hb || satH a || satH b || satH (bq (rndV (bq (bq (satV a) * bq (satV b))) s.toNat)))), [(isDB (dig 8 (absV (rndV (bq (bq (satV a) * bq (satV b))) s.toNat))), true), (rndAsk (bq (satV a) * bq (satV b)) s, true), (mulAsk (satV a) (satV b), true), (i64B (satV b), true), (i64B (satV a), true), (decide (s > 120), false), (decide (s < 0), false), (decide (s < 0), false), (decide (s < 0), false)]) := by kernel_rfl
def mulT8S : List LV → Bool → Option (LV × Bool × List (Bool × Bool))
  | [.v (.one (.int .i64 a)), .v (.one (.int .i64 b)), .v (.one (.int .i64 s))], hb => some (I (mulV a b s), hb || mulH a b s, [])
  | _, _ => none
theorem mulT_out {a b s : Int} (h : s < 0 ∨ s > 120) (hb : Bool) : mulV a b s = 0 ∧ (hb || mulH a b s) = true := by
  unfold mulV mulH rndS rndH
  rcases h with h | h
  · simp [h]
  · have : ¬ s < 0 := by omega
    simp [h, this]
theorem sumMulT : SumOK Try.prog 23 (accSum TY mulT8S) := by
  refine accSum_run (z := Zl) sound72 (own_of sound72 Try.func23 (by kernel_rfl)) fun args hb v h' cs hF hc => ?_
  unfold mulT8S at hF
  split at hF
  · rename_i a b s
    cases hF
    refine ⟨rfl, ?_⟩
    have hs : s < 0 ∨ s > 120 ∨ (0 ≤ s ∧ s ≤ 120) := by omega
    rcases hs with h | h | ⟨h0, h1⟩
    · obtain ⟨e1, e2⟩ := mulT_out (a := a) (b := b) (.inl h) hb
      rw [e1, e2]
      exact ⟨4000, _, _, b12m0 a b s hb, cq_neg h⟩
    · obtain ⟨e1, e2⟩ := mulT_out (a := a) (b := b) (.inr h) hb
      rw [e1, e2]
      exact ⟨4000, _, _, b12m1 a b s hb, cq_big h⟩
    · have r := b12m2 a b s hb
      have ea : bq (satV a) = satV a := bv_sm (by have := absS_le a; omega)
      have eb : bq (satV b) = satV b := bv_sm (by have := absS_le b; omega)
      have pd := satsat a b
      obtain ⟨f1, f2, f3, f4⟩ := q0_in (s := s) (D := satV a * satV b) (absV_le (by omega) (by omega)) h0 h1
      rw [ea, eb, f1, f2, f3, f4, mul_sm (absS_le a) (absS_le b), i64sat, i64sat, decide_eq_false (show ¬ s > 120 by omega), decide_eq_false (show ¬ s < 0 by omega)] at r
      have eh : (hb || satH a || satH b || rndH (satV a * satV b) s) = (hb || mulH a b s) := by unfold mulH; simp [Bool.or_assoc]
      rw [eh] at r
      exact ⟨4000, _, _, r, by simp⟩
  · cases hF
theorem b12x0 (a : Int) : (runF Try.prog S72 Zl 4000 30 [I a] [] 0 (tt 3 [])).map (fun r => (r.1, r.2.2.2)) = some (I 1152921504606846976, [(decide (a < -1152921504606846976), true), (decide (a < -1152921504606846976), true), (decide (a < -1152921504606846976), true)]) := by kernel_rfl
theorem b12x1 (a : Int) : (runF Try.prog S72 Zl 4000 30 [I a] [] 0 (ff 3 (tt 1 []))).map (fun r => (r.1, r.2.2.2)) = some (I 1152921504606846976, [(decide (a > 1152921504606846976), true), (decide (a < -1152921504606846976), false), (decide (a < -1152921504606846976), false), (decide (a < -1152921504606846976), false)]) := by kernel_rfl
theorem b12x2 (a : Int) : (runF Try.prog S72 Zl 4000 30 [I a] [] 0 (ff 4 (tt 1 []))).map (fun r => (r.1, r.2.2.2)) = some (I (wr .i64 (0 - a)), [(decide (a < 0), true), (decide (a > 1152921504606846976), false), (decide (a < -1152921504606846976), false), (decide (a < -1152921504606846976), false), (decide (a < -1152921504606846976), false)]) := by kernel_rfl
theorem b12x3 (a : Int) : (runF Try.prog S72 Zl 4000 30 [I a] [] 0 (ff 5 [])).map (fun r => (r.1, r.2.2.2)) = some (I a, [(decide (a < 0), false), (decide (a > 1152921504606846976), false), (decide (a < -1152921504606846976), false), (decide (a < -1152921504606846976), false), (decide (a < -1152921504606846976), false)]) := by kernel_rfl
def fabsS8 : List LV → Option (LV × List (Bool × Bool))
  | [.v (.one (.int .i64 a))] => some (I (fabsV a), [])
  | _ => none
theorem sumAbsB : SumOK Try.prog 30 (pureSum fabsS8) := by
  refine pureSum_run (z := Zl) sound72 (own_of sound72 Try.func30 (by kernel_rfl)) fun args v cs hF hc => ?_
  unfold fabsS8 at hF
  split at hF
  · rename_i a
    cases hF
    by_cases h1 : a < -1152921504606846976
    · have e : fabsV a = 1152921504606846976 := by unfold fabsV; rw [if_neg (by omega), if_pos (by omega)]
      rw [e]
      exact ⟨4000, _, _, b12x0 a, by rw [decide_eq_true h1]; simp⟩
    · by_cases h2 : a > 1152921504606846976
      · have e : fabsV a = 1152921504606846976 := by unfold fabsV; rw [if_pos (by omega)]
        rw [e]
        exact ⟨4000, _, _, b12x1 a, by rw [decide_eq_false h1, decide_eq_true h2]; simp⟩
      · by_cases h3 : a < 0
        · have e : fabsV a = wr .i64 (0 - a) := by
            have w : wr .i64 (0 - a) = 0 - a := w64_in (by omega) (by omega)
            rw [w]; unfold fabsV
            split <;> try omega
          rw [e]
          exact ⟨4000, _, _, b12x2 a, by rw [decide_eq_false h1, decide_eq_false h2, decide_eq_true h3]; simp⟩
        · have e : fabsV a = a := by
            unfold fabsV
            split <;> try omega
          rw [e]
          exact ⟨4000, _, _, b12x3 a, by rw [decide_eq_false h1, decide_eq_false h2, decide_eq_false h3]; simp⟩
  · cases hF
noncomputable def S73 : FuncId → Option SumK := more (more (more (more (more S72 66 (accSum TY nought8S)) 21 (accSum TY sub8S)) 19 (accSum TY addT8S)) 23 (accSum TY mulT8S)) 30 (pureSum fabsS8)
theorem sound73 : Sound Try.prog S73 := ((((sound72.more sumNoughtB).more sumSubB).more sumAddT).more sumMulT).more sumAbsB
end Go.Proofs.Ytnabopepomjncaa

/- Numbers of 256 bits (astrolaberef1): Div, MulDiv. -/
namespace Go.Proofs.Ytnabopepomjncaa
open Go.Lr Go.Dg
set_option linter.unusedVariables false
set_option linter.unusedSimpArgs false

abbrev quoAsk (v w : Int) : Bool := isDB (dig 8 (absV v)) && (isDB (dig 8 (absV w)) && (decide (0 < fromD (dig 8 (absV w))) && decide (fromD (dig 8 (absV w)) ≤ 4611686018427387904)))
theorem b13d0 (a b s : Int) (hb : Bool) : (runF Try.prog S73 Zl 4000 25 [A0, I a, I b, I s] [(0, flag TY hb)] 1 (tt 3 [])).map acc3 = some (I 0, some (flag TY true), [(decide (s < 0), true), (decide (s < 0), true), (decide (s < 0), true)]) := by kernel_rfl
theorem b13d1 (a b s : Int) (hb : Bool) : (runF Try.prog S73 Zl 4000 25 [A0, I a, I b, I s] [(0, flag TY hb)] 1 (ff 3 (tt 1 []))).map acc3 = some (I 0, some (flag TY true), [(decide (s > 66), true), (decide (s < 0), false), (decide (s < 0), false), (decide (s < 0), false)]) := by kernel_rfl
theorem b13d2 (a b s : Int) (hb : Bool) : (runF Try.prog S73 Zl 4000 25 [A0, I a, I b, I s] [(0, flag TY hb)] 1 (ff 4 (tt 1 []))).map acc3 = some (I (noughtV (bq (satV a))), some (flag TY true), [(isDB (dig 8 (absV (satV a))), true), (zB (dig 8 (absV (satV b))), true), (i64B (satV b), true), (i64B (satV a), true), (decide (s > 66), false), (decide (s < 0), false), (decide (s < 0), false), (decide (s < 0), false)]) := by kernel_rfl
theorem b13d3 (a b s : Int) (hb : Bool) : (runF Try.prog S73 Zl 4000 25 [A0, I a, I b, I s] [(0, flag TY hb)] 1 (ff 5 [])).map acc3 = some (I (satV (bq (divV (bq (bq (satV a) * bq (pow2 s.toNat))) (bq (satV b))))), some (flag TY (hb || satH a || satH b || satH (bq (divV (bq (bq (satV a) * bq (pow2 s.toNat))) (bq (satV b)))))), [(isDB (dig 8 (absV (divV (bq (bq (satV a) * bq (pow2 s.toNat))) (bq (satV b))))), true), (quoAsk (bq (satV a) * bq (pow2 s.toNat)) (satV b), true), (mulAsk (satV a) (pow2 s.toNat), true), (decide (0 ≤ s) && decide (s ≤ 250), true), (zB (dig 8 (absV (satV b))), false), (i64B (satV b), true), (i64B (satV a), true), (decide (s > 66), false), (decide (s < 0), false), (decide (s < 0), false), (decide (s < 0), false)]) := by kernel_rfl
theorem b13m0 (a b d : Int) (hb : Bool) : (runF Try.prog S73 Zl 4000 27 [A0, I a, I b, I d] [(0, flag TY hb)] 1 (tt 1 [])).map acc3 = some (I (noughtV (bq (bq (satV a) * bq (satV b)))), some (flag TY true), [(isDB (dig 8 (absV (bq (satV a) * bq (satV b)))), true), (zB (dig 8 (absV (satV d))), true), (i64B (satV d), true), (mulAsk (satV a) (satV b), true), (i64B (satV b), true), (i64B (satV a), true)]) := by kernel_rfl
theorem b13m1 (a b d : Int) (hb : Bool) : (runF Try.prog S73 Zl 4000 27 [A0, I a, I b, I d] [(0, flag TY hb)] 1 (ff 1 [])).map acc3 = some (I (satV (bq (divV (bq (bq (satV a) * bq (satV b))) (bq (satV d))))), some (flag TY (hb || satH a || satH b || satH d || satH (bq (divV (bq (bq (satV a) * bq (satV b))) (bq (satV d)))))), [(isDB (dig 8 (absV (divV (bq (bq (satV a) * bq (satV b))) (bq (satV d))))), true), (quoAsk (bq (satV a) * bq (satV b)) (satV d), true), (zB (dig 8 (absV (satV d))), false), (i64B (satV d), true), (mulAsk (satV a) (satV b), true), (i64B (satV b), true), (i64B (satV a), true)]) := by kernel_rfl
theorem absV_zero {v : Int} : absV v = 0 ↔ v = 0 := by unfold absV; split <;> omega
theorem zB_sat (v : Int) : zB (dig 8 (absV (satV v))) = decide (satV v = 0) := zB_big _ (by have := absS_le v; have := P256_big; omega)
theorem div_big {w d : Int} (hw : absV w ≤ 170141183460469231731687303715884105728) (hd : absV d ≤ 1152921504606846976) (h : d ≠ 0) :
    bq w = w ∧ bq d = d ∧ bq (divV w d) = divV w d ∧ quoAsk w d = true := by
  have P := P256_big
  have d0 := absV_nn d
  have d1 : absV d ≠ 0 := fun e => h (absV_zero.1 e)
  have w0 := absV_nn w
  have q0 : 0 ≤ absV w / absV d := Int.ediv_nonneg w0 d0
  have q1 : absV w / absV d ≤ absV w := Int.ediv_le_self _ w0
  have q2 : quoR (absV w) (absV d) ≤ absV w + 1 ∧ 0 ≤ quoR (absV w) (absV d) := by
    unfold quoR; split <;> omega
  have q3 : absV (divV w d) ≤ 340282366920938463463374607431768211456 := by
    have : absV (divV w d) = quoR (absV w) (absV d) := by
      unfold divV sgn
      split
      · rw [absV_negv, absV_pos q2.2]
      · rw [absV_pos q2.2]
    rw [this]; omega
  refine ⟨bv_sm (by omega), bv_sm (by omega), bv_sm q3, ?_⟩
  have e := fD_sm (v := d) (by omega)
  unfold quoAsk
  rw [isDBd, isDBd, e, decide_eq_true (show 0 < absV d by omega), decide_eq_true (show absV d ≤ 4611686018427387904 by omega)]; rfl
def divT8S : List LV → Bool → Option (LV × Bool × List (Bool × Bool))
  | [.v (.one (.int .i64 a)), .v (.one (.int .i64 b)), .v (.one (.int .i64 s))], hb => some (I (divPV a b s), hb || divPH a b s, [])
  | _, _ => none
theorem divT_out {a b s : Int} (h : s < 0 ∨ s > 66) (hb : Bool) : divPV a b s = 0 ∧ (hb || divPH a b s) = true := by
  unfold divPV divPH
  rcases h with h | h
  · simp [h]
  · have : ¬ s < 0 := by omega
    simp [h, this]
theorem cq_66 {s : Int} (h : s > 66) : ∀ c ∈ [(decide (s > 66), true), (decide (s < 0), false), (decide (s < 0), false), (decide (s < 0), false)], c.1 = c.2 := by
  rw [decide_eq_true h, decide_eq_false (show ¬ s < 0 by omega)]; simp
theorem nought_by {v p : Int} (hp : 0 < p) : noughtV v = byV (v * p) 0 := by
  unfold noughtV byV
  rw [if_pos rfl]
  by_cases z : v = 0
  · rw [if_pos z, z, Int.zero_mul, if_pos rfl]
  · have z' : v * p ≠ 0 := Int.mul_ne_zero z (by omega)
    rw [if_neg z, if_neg z']
    by_cases n : v < 0
    · rw [if_pos n, if_pos (Int.mul_neg_of_neg_of_pos n hp)]
    · rw [if_neg n, if_neg (by have := Int.mul_pos (show 0 < v by omega) hp; omega)]
theorem sumDivT : SumOK Try.prog 25 (accSum TY divT8S) := by
  refine accSum_run (z := Zl) sound73 (own_of sound73 Try.func25 (by kernel_rfl)) fun args hb v h' cs hF hc => ?_
  unfold divT8S at hF
  split at hF
  · rename_i a b s
    cases hF
    refine ⟨rfl, ?_⟩
    have hs : s < 0 ∨ s > 66 ∨ (0 ≤ s ∧ s ≤ 66) := by omega
    rcases hs with h | h | ⟨h0, h1⟩
    · obtain ⟨e1, e2⟩ := divT_out (a := a) (b := b) (.inl h) hb
      rw [e1, e2]
      exact ⟨4000, _, _, b13d0 a b s hb, cq_neg h⟩
    · obtain ⟨e1, e2⟩ := divT_out (a := a) (b := b) (.inr h) hb
      rw [e1, e2]
      exact ⟨4000, _, _, b13d1 a b s hb, cq_66 h⟩
    · have hp := pow2_pos s.toNat
      have ea : bq (satV a) = satV a := bv_sm (by have := absS_le a; omega)
      have n0 : ¬ s < 0 := by omega
      have n1 : ¬ s > 66 := by omega
      have sa := absS_le a
      have sb := absS_le b
      by_cases z : satV b = 0
      · have r := b13d2 a b s hb
        have e1 : divPV a b s = noughtV (satV a) := by
          unfold divPV; rw [if_neg n0, if_neg n1, z, nought_by hp]
        have e2 : (hb || divPH a b s) = true := by
          unfold divPH byH; rw [z]; simp
        rw [ea, zB_sat, decide_eq_true z, i64sat, i64sat, isDBd, decide_eq_false n0, decide_eq_false n1] at r
        rw [e1, e2]
        exact ⟨4000, _, _, r, by simp⟩
      · have r := b13d3 a b s hb
        have hp2 : pow2 s.toNat ≤ pow2 66 := pow2_mono (by omega)
        have e66 : pow2 66 = 73786976294838206464 := by kernel_rfl
        have ap : absV (pow2 s.toNat) = pow2 s.toNat := absV_pos (by omega)
        have ep : bq (pow2 s.toNat) = pow2 s.toNat := bv_sm (by rw [ap]; omega)
        have st := sat_bd a
        have m0 : satV a * pow2 s.toNat ≤ 1152921504606846976 * 73786976294838206464 := by
          rcases Int.le_total 0 (satV a) with g | g
          · exact Int.mul_le_mul (by omega) (by omega) (by omega) (by omega)
          · have := Int.mul_nonneg (a := -satV a) (b := pow2 s.toNat) (by omega) (by omega)
            rw [Int.neg_mul] at this
            omega
        have m1 : -(1152921504606846976 * 73786976294838206464) ≤ satV a * pow2 s.toNat := by
          rcases Int.le_total 0 (satV a) with g | g
          · have := Int.mul_nonneg (a := satV a) (b := pow2 s.toNat) (by omega) (by omega)
            omega
          · have := Int.mul_le_mul (a := -satV a) (b := pow2 s.toNat) (c := 1152921504606846976) (d := 73786976294838206464) (by omega) (by omega) (by omega) (by omega)
            rw [Int.neg_mul] at this
            omega
        obtain ⟨k1, k2, k3, k4⟩ := div_big (w := satV a * pow2 s.toNat) (d := satV b) (absV_le (by omega) (by omega)) sb z
        have ma : mulAsk (satV a) (pow2 s.toNat) = true := by
          have P := P256_big
          have a0 := absV_nn (satV a)
          have g := Int.mul_le_mul sa (show pow2 s.toNat ≤ 73786976294838206464 by omega) (by omega) (by omega)
          unfold mulAsk
          rw [isDBd, isDBd, fD_sm (by omega), fD_sm (by rw [ap]; omega), ap, Bool.true_and, Bool.true_and, decide_eq_true_eq]; omega
        have e1 : divPV a b s = satV (divV (satV a * pow2 s.toNat) (satV b)) := by
          unfold divPV byV; rw [if_neg n0, if_neg n1, if_neg z]
        have e2 : (hb || divPH a b s) = (hb || satH a || satH b || satH (divV (satV a * pow2 s.toNat) (satV b))) := by
          unfold divPH byH
          rw [decide_eq_false n0, decide_eq_false n1, show (satV b == 0) = false by simpa using z]; simp [Bool.or_assoc]
        rw [ea, ep, k1, k2, k3, k4, ma, zB_sat, decide_eq_false z, i64sat, i64sat, isDBd, decide_eq_false n0, decide_eq_false n1, decide_eq_true h0, decide_eq_true (show s ≤ 250 by omega)] at r
        rw [e1, e2]
        exact ⟨4000, _, _, r, by simp⟩
  · cases hF
def mdT8S : List LV → Bool → Option (LV × Bool × List (Bool × Bool))
  | [.v (.one (.int .i64 a)), .v (.one (.int .i64 b)), .v (.one (.int .i64 d))], hb => some (I (mulDivV a b d), hb || mulDivH a b d, [])
  | _, _ => none
theorem sumMulDivT : SumOK Try.prog 27 (accSum TY mdT8S) := by
  refine accSum_run (z := Zl) sound73 (own_of sound73 Try.func27 (by kernel_rfl)) fun args hb v h' cs hF hc => ?_
  unfold mdT8S at hF
  split at hF
  · rename_i a b d
    cases hF
    refine ⟨rfl, ?_⟩
    have ea : bq (satV a) = satV a := bv_sm (by have := absS_le a; omega)
    have eb : bq (satV b) = satV b := bv_sm (by have := absS_le b; omega)
    have sd := absS_le d
    have pd := satsat a b
    have pa : absV (satV a * satV b) ≤ 170141183460469231731687303715884105728 := absV_le (by omega) (by omega)
    by_cases z : satV d = 0
    · have r := b13m0 a b d hb
      have e1 : mulDivV a b d = noughtV (satV a * satV b) := by
        unfold mulDivV; rw [z, nought_by (p := 1) (by omega), Int.mul_one]
      have e2 : (hb || mulDivH a b d) = true := by
        unfold mulDivH byH; rw [z]; simp
      have ep : bq (satV a * satV b) = satV a * satV b := bv_sm (by omega)
      rw [ea, eb, ep, mul_sm (absS_le a) (absS_le b), zB_sat, decide_eq_true z, i64sat, i64sat, i64sat, isDBd] at r
      rw [e1, e2]
      exact ⟨4000, _, _, r, by simp⟩
    · have r := b13m1 a b d hb
      obtain ⟨k1, k2, k3, k4⟩ := div_big (w := satV a * satV b) (d := satV d) pa sd z
      have e1 : mulDivV a b d = satV (divV (satV a * satV b) (satV d)) := by
        unfold mulDivV byV; rw [if_neg z]
      have e2 : (hb || mulDivH a b d) = (hb || satH a || satH b || satH d || satH (divV (satV a * satV b) (satV d))) := by
        unfold mulDivH byH
        rw [show (satV d == 0) = false by simpa using z]; simp [Bool.or_assoc]
      rw [ea, eb, k1, k2, k3, k4, mul_sm (absS_le a) (absS_le b), zB_sat, decide_eq_false z, i64sat, i64sat, i64sat, isDBd] at r
      rw [e1, e2]
      exact ⟨4000, _, _, r, by simp⟩
  · cases hF
noncomputable def S74 : FuncId → Option SumK := more (more S73 25 (accSum TY divT8S)) 27 (accSum TY mdT8S)
theorem sound74 : Sound Try.prog S74 := (sound73.more sumDivT).more sumMulDivT
end Go.Proofs.Ytnabopepomjncaa
