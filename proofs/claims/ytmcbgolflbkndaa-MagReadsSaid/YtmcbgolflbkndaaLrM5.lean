/- Joined texts. What each part proves stands ahead of it; no condition. -/
import Derived.Test.YtmcbgolflbkndaaLrM4
import Derived.Test.YtmcbgolflbkndaaLrM3
import Derived.WalkKit
import Derived.ProofKit
import Derived.OpenShut
import Derived.WideKeyArr2
import Derived.Test.YtmcbgolflbkndaaLrM1

/- The second reference's scalars: sizes, products, comparing, clamping: runs (printed), and what they come to. -/
namespace Go.Proofs.Ytmcbgolflbkndaa
open Go.Lr
set_option linter.unusedVariables false
set_option linter.unusedSimpArgs false

theorem rsizeR1 (a : Int) : (runF Try.prog S24 Zl 2000 94 [.v (.one (.int .i64 a))] [] 0 [some true]).map (fun r => (r.1, r.2.2.2)) = some (LV.v (V1.one (At.int IntKind.u64 (wr IntKind.u64 (wr IntKind.i64 (0 - a))))), [(decide (a < 0), true)]) := by kernel_rfl
theorem rsizeR2 (a : Int) : (runF Try.prog S24 Zl 2000 94 [.v (.one (.int .i64 a))] [] 0 [some false]).map (fun r => (r.1, r.2.2.2)) = some (LV.v (V1.one (At.int IntKind.u64 (wr IntKind.u64 a))), [(decide (a < 0), false)]) := by kernel_rfl
def rsizeT (a : Int) : Option (LV × List (Bool × Bool)) := 
  bif (decide (a < 0)) then some (LV.v (V1.one (At.int IntKind.u64 (wr IntKind.u64 (wr IntKind.i64 (0 - a))))), [])
  else some (LV.v (V1.one (At.int IntKind.u64 (wr IntKind.u64 a))), [])
def rsizeF : List LV → Option (LV × List (Bool × Bool))
  | [.v (.one (.int .i64 a))] => rsizeT a
  | _ => none
theorem sumrsize : SumOK Try.prog 94 (pureSum rsizeF) := by
  refine pureSum_run (z := Zl) sound24 (own_of sound24 Try.func94 (by kernel_rfl)) fun args v cs hF hc => ?_
  unfold rsizeF at hF
  split at hF
  · rename_i a
    unfold rsizeT at hF
    rcases bool_cases (decide (a < 0)) with h0 | h0
    · rw [cond_t h0] at hF
      cases hF
      exact ⟨2000, [some true], _, rsizeR1 a, ae_cons (h0) (ae_nil)⟩
    · rw [cond_f h0] at hF
      cases hF
      exact ⟨2000, [some false], _, rsizeR2 a, ae_cons (h0) (ae_nil)⟩
  · cases hF

theorem rprodR1 (a b : Int) : (runF Try.prog S24 Zl 2000 123 [.v (.one (.int .u64 a)), .v (.one (.int .u64 b))] [] 0 []).map (fun r => (r.1, r.2.2.2)) = some (LV.tup [V1.one (At.int IntKind.u64 (wr IntKind.u64 (wr IntKind.u64 (wr IntKind.u64 (a / pow2 (min (Int.toNat 32) IntKind.u64.bits) * (b / pow2 (min (Int.toNat 32) IntKind.u64.bits))) + wr IntKind.u64 (wr IntKind.u64 (a / pow2 (min (Int.toNat 32) IntKind.u64.bits) * Int.ofNat ((u64 b).toNat.land (u64 4294967295).toNat)) + wr IntKind.u64 (Int.ofNat ((u64 a).toNat.land (u64 4294967295).toNat) * Int.ofNat ((u64 b).toNat.land (u64 4294967295).toNat)) / pow2 (min (Int.toNat 32) IntKind.u64.bits)) / pow2 (min (Int.toNat 32) IntKind.u64.bits)) + wr IntKind.u64 (wr IntKind.u64 (Int.ofNat ((u64 a).toNat.land (u64 4294967295).toNat) * (b / pow2 (min (Int.toNat 32) IntKind.u64.bits))) + Int.ofNat ((u64 (wr IntKind.u64 (wr IntKind.u64 (a / pow2 (min (Int.toNat 32) IntKind.u64.bits) * Int.ofNat ((u64 b).toNat.land (u64 4294967295).toNat)) + wr IntKind.u64 (Int.ofNat ((u64 a).toNat.land (u64 4294967295).toNat) * Int.ofNat ((u64 b).toNat.land (u64 4294967295).toNat)) / pow2 (min (Int.toNat 32) IntKind.u64.bits)))).toNat.land (u64 4294967295).toNat)) / pow2 (min (Int.toNat 32) IntKind.u64.bits)))), V1.one (At.int IntKind.u64 (Int.ofNat ((u64 (wr IntKind.u64 (wr IntKind.u64 (wr IntKind.u64 (Int.ofNat ((u64 a).toNat.land (u64 4294967295).toNat) * (b / pow2 (min (Int.toNat 32) IntKind.u64.bits))) + Int.ofNat ((u64 (wr IntKind.u64 (wr IntKind.u64 (a / pow2 (min (Int.toNat 32) IntKind.u64.bits) * Int.ofNat ((u64 b).toNat.land (u64 4294967295).toNat)) + wr IntKind.u64 (Int.ofNat ((u64 a).toNat.land (u64 4294967295).toNat) * Int.ofNat ((u64 b).toNat.land (u64 4294967295).toNat)) / pow2 (min (Int.toNat 32) IntKind.u64.bits)))).toNat.land (u64 4294967295).toNat)) * pow2 (min (Int.toNat 32) IntKind.u64.bits)))).toNat.lor (u64 (Int.ofNat ((u64 (wr IntKind.u64 (Int.ofNat ((u64 a).toNat.land (u64 4294967295).toNat) * Int.ofNat ((u64 b).toNat.land (u64 4294967295).toNat)))).toNat.land (u64 4294967295).toNat))).toNat)))], []) := by kernel_rfl
def rprodT (a b : Int) : Option (LV × List (Bool × Bool)) := some (LV.tup [V1.one (At.int IntKind.u64 (wr IntKind.u64 (wr IntKind.u64 (wr IntKind.u64 (a / pow2 (min (Int.toNat 32) IntKind.u64.bits) * (b / pow2 (min (Int.toNat 32) IntKind.u64.bits))) + wr IntKind.u64 (wr IntKind.u64 (a / pow2 (min (Int.toNat 32) IntKind.u64.bits) * Int.ofNat ((u64 b).toNat.land (u64 4294967295).toNat)) + wr IntKind.u64 (Int.ofNat ((u64 a).toNat.land (u64 4294967295).toNat) * Int.ofNat ((u64 b).toNat.land (u64 4294967295).toNat)) / pow2 (min (Int.toNat 32) IntKind.u64.bits)) / pow2 (min (Int.toNat 32) IntKind.u64.bits)) + wr IntKind.u64 (wr IntKind.u64 (Int.ofNat ((u64 a).toNat.land (u64 4294967295).toNat) * (b / pow2 (min (Int.toNat 32) IntKind.u64.bits))) + Int.ofNat ((u64 (wr IntKind.u64 (wr IntKind.u64 (a / pow2 (min (Int.toNat 32) IntKind.u64.bits) * Int.ofNat ((u64 b).toNat.land (u64 4294967295).toNat)) + wr IntKind.u64 (Int.ofNat ((u64 a).toNat.land (u64 4294967295).toNat) * Int.ofNat ((u64 b).toNat.land (u64 4294967295).toNat)) / pow2 (min (Int.toNat 32) IntKind.u64.bits)))).toNat.land (u64 4294967295).toNat)) / pow2 (min (Int.toNat 32) IntKind.u64.bits)))), V1.one (At.int IntKind.u64 (Int.ofNat ((u64 (wr IntKind.u64 (wr IntKind.u64 (wr IntKind.u64 (Int.ofNat ((u64 a).toNat.land (u64 4294967295).toNat) * (b / pow2 (min (Int.toNat 32) IntKind.u64.bits))) + Int.ofNat ((u64 (wr IntKind.u64 (wr IntKind.u64 (a / pow2 (min (Int.toNat 32) IntKind.u64.bits) * Int.ofNat ((u64 b).toNat.land (u64 4294967295).toNat)) + wr IntKind.u64 (Int.ofNat ((u64 a).toNat.land (u64 4294967295).toNat) * Int.ofNat ((u64 b).toNat.land (u64 4294967295).toNat)) / pow2 (min (Int.toNat 32) IntKind.u64.bits)))).toNat.land (u64 4294967295).toNat)) * pow2 (min (Int.toNat 32) IntKind.u64.bits)))).toNat.lor (u64 (Int.ofNat ((u64 (wr IntKind.u64 (Int.ofNat ((u64 a).toNat.land (u64 4294967295).toNat) * Int.ofNat ((u64 b).toNat.land (u64 4294967295).toNat)))).toNat.land (u64 4294967295).toNat))).toNat)))], [])
def rprodF : List LV → Option (LV × List (Bool × Bool))
  | [.v (.one (.int .u64 a)), .v (.one (.int .u64 b))] => rprodT a b
  | _ => none
theorem sumrprod : SumOK Try.prog 123 (pureSum rprodF) := by
  refine pureSum_run (z := Zl) sound24 (own_of sound24 Try.func123 (by kernel_rfl)) fun args v cs hF hc => ?_
  unfold rprodF at hF
  split at hF
  · rename_i a b
    unfold rprodT at hF
    cases hF
    exact ⟨2000, [], _, rprodR1 a b, ae_nil⟩
  · cases hF

theorem rlessR1 (x y : Int) (n : Bool) (x' y' : Int) (n' : Bool) : (runF Try.prog S24 Zl 2000 132 [.v (.agg [.int .u64 x, .int .u64 y, .bool n]), .v (.agg [.int .u64 x', .int .u64 y', .bool n'])] [] 0 [some true, some true, some true, some true, some true, some true, none, none, none, none, none, some true, none, some true]).map (fun r => (r.1, r.2.2.2)) = some (LV.v (V1.one (At.bool true)), [(decide (x < x'), true), (decide (x < x'), true), (decide (x < x'), true), (decide (x < x'), true), (decide (x < x'), true), (decide (x < x'), true), (decide (x < x'), true), (decide (x < x'), true)]) := by kernel_rfl
theorem rlessR2 (x y : Int) (n : Bool) (x' y' : Int) (n' : Bool) : (runF Try.prog S24 Zl 2000 132 [.v (.agg [.int .u64 x, .int .u64 y, .bool n]), .v (.agg [.int .u64 x', .int .u64 y', .bool n'])] [] 0 [some false, some false, some false, some false, some false, some false, some true, some true, some true, some true, some true, some false, some true, some false]).map (fun r => (r.1, r.2.2.2)) = some (LV.v (V1.one (At.bool (decide (y < y')))), [(decide (x < x'), false), (decide (x < x'), false), (x == x', true), (x == x', true), (x == x', true), (x == x', true), (x == x', true), (x == x', true), (decide (x < x'), false), (decide (x < x'), false), (decide (x < x'), false), (decide (x < x'), false), (decide (x < x'), false), (decide (x < x'), false)]) := by kernel_rfl
theorem rlessR3 (x y : Int) (n : Bool) (x' y' : Int) (n' : Bool) : (runF Try.prog S24 Zl 2000 132 [.v (.agg [.int .u64 x, .int .u64 y, .bool n]), .v (.agg [.int .u64 x', .int .u64 y', .bool n'])] [] 0 [some false, some false, some false, some false, some false, some false, some false, some false, some false, some false, some false, some false, some false, some false]).map (fun r => (r.1, r.2.2.2)) = some (LV.v (V1.one (At.bool false)), [(decide (x < x'), false), (decide (x < x'), false), (x == x', false), (x == x', false), (x == x', false), (x == x', false), (x == x', false), (x == x', false), (decide (x < x'), false), (decide (x < x'), false), (decide (x < x'), false), (decide (x < x'), false), (decide (x < x'), false), (decide (x < x'), false)]) := by kernel_rfl
def rlessT (x y : Int) (n : Bool) (x' y' : Int) (n' : Bool) : Option (LV × List (Bool × Bool)) := 
  bif (decide (x < x')) then some (LV.v (V1.one (At.bool true)), [])
  else 
    bif (x == x') then some (LV.v (V1.one (At.bool (decide (y < y')))), [])
    else some (LV.v (V1.one (At.bool false)), [])
def rlessF : List LV → Option (LV × List (Bool × Bool))
  | [.v (.agg [.int .u64 x, .int .u64 y, .bool n]), .v (.agg [.int .u64 x', .int .u64 y', .bool n'])] => rlessT x y n x' y' n'
  | _ => none
theorem sumrless : SumOK Try.prog 132 (pureSum rlessF) := by
  refine pureSum_run (z := Zl) sound24 (own_of sound24 Try.func132 (by kernel_rfl)) fun args v cs hF hc => ?_
  unfold rlessF at hF
  split at hF
  · rename_i x y n x' y' n'
    unfold rlessT at hF
    rcases bool_cases (decide (x < x')) with h0 | h0
    · rw [cond_t h0] at hF
      cases hF
      exact ⟨2000, [some true, some true, some true, some true, some true, some true, none, none, none, none, none, some true, none, some true], _, rlessR1 x y n x' y' n', ae_cons (h0) (ae_cons (h0) (ae_cons (h0) (ae_cons (h0) (ae_cons (h0) (ae_cons (h0) (ae_cons (h0) (ae_cons (h0) (ae_nil))))))))⟩
    · rw [cond_f h0] at hF
      rcases bool_cases (x == x') with h1 | h1
      · rw [cond_t h1] at hF
        cases hF
        exact ⟨2000, [some false, some false, some false, some false, some false, some false, some true, some true, some true, some true, some true, some false, some true, some false], _, rlessR2 x y n x' y' n', ae_cons (h0) (ae_cons (h0) (ae_cons (h1) (ae_cons (h1) (ae_cons (h1) (ae_cons (h1) (ae_cons (h1) (ae_cons (h1) (ae_cons (h0) (ae_cons (h0) (ae_cons (h0) (ae_cons (h0) (ae_cons (h0) (ae_cons (h0) (ae_nil))))))))))))))⟩
      · rw [cond_f h1] at hF
        cases hF
        exact ⟨2000, [some false, some false, some false, some false, some false, some false, some false, some false, some false, some false, some false, some false, some false, some false], _, rlessR3 x y n x' y' n', ae_cons (h0) (ae_cons (h0) (ae_cons (h1) (ae_cons (h1) (ae_cons (h1) (ae_cons (h1) (ae_cons (h1) (ae_cons (h1) (ae_cons (h0) (ae_cons (h0) (ae_cons (h0) (ae_cons (h0) (ae_cons (h0) (ae_cons (h0) (ae_nil))))))))))))))⟩
  · cases hF

theorem rclampR1 (a lo hi : Int) (hb : Bool) (ty : TypeId) : (runF Try.prog S24 Zl 2000 95 [A0, .v (.one (.int .i64 a)), .v (.one (.int .i64 lo)), .v (.one (.int .i64 hi))] [(0, flag ty hb)] 1 [some true, some true, some true, some true, none, some true, some true, some true, some true, none]).map acc3 = some (LV.v (V1.one (At.int IntKind.i64 lo)), some { ty := ty, fr := (0, 0), es := 0, cells := [At.bool true] }, [(lo != a, true), (lo != a, true), (lo != a, true), (lo != a, true), (decide (a < lo), true), (decide (a < lo), true), (decide (a < lo), true), (decide (a < lo), true)]) := by kernel_rfl
theorem rclampR2 (a lo hi : Int) (hb : Bool) (ty : TypeId) : (runF Try.prog S24 Zl 2000 95 [A0, .v (.one (.int .i64 a)), .v (.one (.int .i64 lo)), .v (.one (.int .i64 hi))] [(0, flag ty hb)] 1 [some true, some true, some true, some true, none, some false, some false, some false, some false, some true]).map acc3 = some (LV.v (V1.one (At.int IntKind.i64 lo)), some { ty := ty, fr := (0, 0), es := 0, cells := [At.bool true] }, [(decide (lo > hi), true), (lo != a, false), (lo != a, false), (lo != a, false), (lo != a, false), (decide (a < lo), true), (decide (a < lo), true), (decide (a < lo), true), (decide (a < lo), true)]) := by kernel_rfl
theorem rclampR3 (a lo hi : Int) (hb : Bool) (ty : TypeId) : (runF Try.prog S24 Zl 2000 95 [A0, .v (.one (.int .i64 a)), .v (.one (.int .i64 lo)), .v (.one (.int .i64 hi))] [(0, flag ty hb)] 1 [some true, some true, some true, some true, none, some false, some false, some false, some false, some false]).map acc3 = some (LV.v (V1.one (At.int IntKind.i64 lo)), some { ty := ty, fr := (0, 0), es := 0, cells := [At.bool hb] }, [(decide (lo > hi), false), (lo != a, false), (lo != a, false), (lo != a, false), (lo != a, false), (decide (a < lo), true), (decide (a < lo), true), (decide (a < lo), true), (decide (a < lo), true)]) := by kernel_rfl
theorem rclampR4 (a lo hi : Int) (hb : Bool) (ty : TypeId) : (runF Try.prog S24 Zl 2000 95 [A0, .v (.one (.int .i64 a)), .v (.one (.int .i64 lo)), .v (.one (.int .i64 hi))] [(0, flag ty hb)] 1 [some false, some false, some false, some false, some true, some true, some true, some true, some true, none]).map acc3 = some (LV.v (V1.one (At.int IntKind.i64 lo)), some { ty := ty, fr := (0, 0), es := 0, cells := [At.bool true] }, [(lo != a, true), (lo != a, true), (lo != a, true), (lo != a, true), (decide (lo > hi), true), (decide (a < lo), false), (decide (a < lo), false), (decide (a < lo), false), (decide (a < lo), false)]) := by kernel_rfl
theorem rclampR5 (a lo hi : Int) (hb : Bool) (ty : TypeId) : (runF Try.prog S24 Zl 2000 95 [A0, .v (.one (.int .i64 a)), .v (.one (.int .i64 lo)), .v (.one (.int .i64 hi))] [(0, flag ty hb)] 1 [some false, some false, some false, some false, some true, some false, some false, some false, some false, some true]).map acc3 = some (LV.v (V1.one (At.int IntKind.i64 lo)), some { ty := ty, fr := (0, 0), es := 0, cells := [At.bool true] }, [(decide (lo > hi), true), (lo != a, false), (lo != a, false), (lo != a, false), (lo != a, false), (decide (lo > hi), true), (decide (a < lo), false), (decide (a < lo), false), (decide (a < lo), false), (decide (a < lo), false)]) := by kernel_rfl
theorem rclampR6 (a lo hi : Int) (hb : Bool) (ty : TypeId) : (runF Try.prog S24 Zl 2000 95 [A0, .v (.one (.int .i64 a)), .v (.one (.int .i64 lo)), .v (.one (.int .i64 hi))] [(0, flag ty hb)] 1 [some false, some false, some false, some false, some false, some true, some true, some true, some true, some true, none]).map acc3 = some (LV.v (V1.one (At.int IntKind.i64 hi)), some { ty := ty, fr := (0, 0), es := 0, cells := [At.bool true] }, [(hi != a, true), (hi != a, true), (hi != a, true), (hi != a, true), (decide (a > hi), true), (decide (lo > hi), false), (decide (a < lo), false), (decide (a < lo), false), (decide (a < lo), false), (decide (a < lo), false)]) := by kernel_rfl
theorem rclampR7 (a lo hi : Int) (hb : Bool) (ty : TypeId) : (runF Try.prog S24 Zl 2000 95 [A0, .v (.one (.int .i64 a)), .v (.one (.int .i64 lo)), .v (.one (.int .i64 hi))] [(0, flag ty hb)] 1 [some false, some false, some false, some false, some false, some true, some false, some false, some false, some false, some false]).map acc3 = some (LV.v (V1.one (At.int IntKind.i64 hi)), some { ty := ty, fr := (0, 0), es := 0, cells := [At.bool hb] }, [(decide (lo > hi), false), (hi != a, false), (hi != a, false), (hi != a, false), (hi != a, false), (decide (a > hi), true), (decide (lo > hi), false), (decide (a < lo), false), (decide (a < lo), false), (decide (a < lo), false), (decide (a < lo), false)]) := by kernel_rfl
theorem rclampR8 (a lo hi : Int) (hb : Bool) (ty : TypeId) : (runF Try.prog S24 Zl 2000 95 [A0, .v (.one (.int .i64 a)), .v (.one (.int .i64 lo)), .v (.one (.int .i64 hi))] [(0, flag ty hb)] 1 [some false, some false, some false, some false, some false, some false, some true, some true, some true, some true, none]).map acc3 = some (LV.v (V1.one (At.int IntKind.i64 a)), some { ty := ty, fr := (0, 0), es := 0, cells := [At.bool true] }, [(a != a, true), (a != a, true), (a != a, true), (a != a, true), (decide (a > hi), false), (decide (lo > hi), false), (decide (a < lo), false), (decide (a < lo), false), (decide (a < lo), false), (decide (a < lo), false)]) := by kernel_rfl
theorem rclampR9 (a lo hi : Int) (hb : Bool) (ty : TypeId) : (runF Try.prog S24 Zl 2000 95 [A0, .v (.one (.int .i64 a)), .v (.one (.int .i64 lo)), .v (.one (.int .i64 hi))] [(0, flag ty hb)] 1 [some false, some false, some false, some false, some false, some false, some false, some false, some false, some false, some false]).map acc3 = some (LV.v (V1.one (At.int IntKind.i64 a)), some { ty := ty, fr := (0, 0), es := 0, cells := [At.bool hb] }, [(decide (lo > hi), false), (a != a, false), (a != a, false), (a != a, false), (a != a, false), (decide (a > hi), false), (decide (lo > hi), false), (decide (a < lo), false), (decide (a < lo), false), (decide (a < lo), false), (decide (a < lo), false)]) := by kernel_rfl
def rclampT (a lo hi : Int) (hb : Bool) : Option (LV × Bool × List (Bool × Bool)) := 
  bif (decide (a < lo)) then 
    bif (lo != a) then some (LV.v (V1.one (At.int IntKind.i64 lo)), (true), [])
    else 
      bif (decide (lo > hi)) then some (LV.v (V1.one (At.int IntKind.i64 lo)), (true), [])
      else some (LV.v (V1.one (At.int IntKind.i64 lo)), (hb), [])
  else 
    bif (decide (lo > hi)) then 
      bif (lo != a) then some (LV.v (V1.one (At.int IntKind.i64 lo)), (true), [])
      else some (LV.v (V1.one (At.int IntKind.i64 lo)), (true), [])
    else 
      bif (decide (a > hi)) then 
        bif (hi != a) then some (LV.v (V1.one (At.int IntKind.i64 hi)), (true), [])
        else some (LV.v (V1.one (At.int IntKind.i64 hi)), (hb), [])
      else 
        bif (a != a) then some (LV.v (V1.one (At.int IntKind.i64 a)), (true), [])
        else some (LV.v (V1.one (At.int IntKind.i64 a)), (hb), [])
def rclampF : List LV → Bool → Option (LV × Bool × List (Bool × Bool))
  | [.v (.one (.int .i64 a)), .v (.one (.int .i64 lo)), .v (.one (.int .i64 hi))], hb => rclampT a lo hi hb
  | _, _ => none
theorem sumrclamp (ty : TypeId) : SumOK Try.prog 95 (accSum ty rclampF) := by
  refine accSum_run (z := Zl) sound24 (own_of sound24 Try.func95 (by kernel_rfl)) fun args hb v h' cs hF hc => ?_
  unfold rclampF at hF
  split at hF
  · rename_i a lo hi
    unfold rclampT at hF
    rcases bool_cases (decide (a < lo)) with h0 | h0
    · rw [cond_t h0] at hF
      rcases bool_cases (lo != a) with h1 | h1
      · rw [cond_t h1] at hF
        cases hF
        exact ⟨rfl, 2000, [some true, some true, some true, some true, none, some true, some true, some true, some true, none], _, rclampR1 a lo hi hb ty, ae_cons (h1) (ae_cons (h1) (ae_cons (h1) (ae_cons (h1) (ae_cons (h0) (ae_cons (h0) (ae_cons (h0) (ae_cons (h0) (ae_nil))))))))⟩
      · rw [cond_f h1] at hF
        rcases bool_cases (decide (lo > hi)) with h2 | h2
        · rw [cond_t h2] at hF
          cases hF
          exact ⟨rfl, 2000, [some true, some true, some true, some true, none, some false, some false, some false, some false, some true], _, rclampR2 a lo hi hb ty, ae_cons (h2) (ae_cons (h1) (ae_cons (h1) (ae_cons (h1) (ae_cons (h1) (ae_cons (h0) (ae_cons (h0) (ae_cons (h0) (ae_cons (h0) (ae_nil)))))))))⟩
        · rw [cond_f h2] at hF
          cases hF
          exact ⟨rfl, 2000, [some true, some true, some true, some true, none, some false, some false, some false, some false, some false], _, rclampR3 a lo hi hb ty, ae_cons (h2) (ae_cons (h1) (ae_cons (h1) (ae_cons (h1) (ae_cons (h1) (ae_cons (h0) (ae_cons (h0) (ae_cons (h0) (ae_cons (h0) (ae_nil)))))))))⟩
    · rw [cond_f h0] at hF
      rcases bool_cases (decide (lo > hi)) with h1 | h1
      · rw [cond_t h1] at hF
        rcases bool_cases (lo != a) with h2 | h2
        · rw [cond_t h2] at hF
          cases hF
          exact ⟨rfl, 2000, [some false, some false, some false, some false, some true, some true, some true, some true, some true, none], _, rclampR4 a lo hi hb ty, ae_cons (h2) (ae_cons (h2) (ae_cons (h2) (ae_cons (h2) (ae_cons (h1) (ae_cons (h0) (ae_cons (h0) (ae_cons (h0) (ae_cons (h0) (ae_nil)))))))))⟩
        · rw [cond_f h2] at hF
          cases hF
          exact ⟨rfl, 2000, [some false, some false, some false, some false, some true, some false, some false, some false, some false, some true], _, rclampR5 a lo hi hb ty, ae_cons (h1) (ae_cons (h2) (ae_cons (h2) (ae_cons (h2) (ae_cons (h2) (ae_cons (h1) (ae_cons (h0) (ae_cons (h0) (ae_cons (h0) (ae_cons (h0) (ae_nil))))))))))⟩
      · rw [cond_f h1] at hF
        rcases bool_cases (decide (a > hi)) with h2 | h2
        · rw [cond_t h2] at hF
          rcases bool_cases (hi != a) with h3 | h3
          · rw [cond_t h3] at hF
            cases hF
            exact ⟨rfl, 2000, [some false, some false, some false, some false, some false, some true, some true, some true, some true, some true, none], _, rclampR6 a lo hi hb ty, ae_cons (h3) (ae_cons (h3) (ae_cons (h3) (ae_cons (h3) (ae_cons (h2) (ae_cons (h1) (ae_cons (h0) (ae_cons (h0) (ae_cons (h0) (ae_cons (h0) (ae_nil))))))))))⟩
          · rw [cond_f h3] at hF
            cases hF
            exact ⟨rfl, 2000, [some false, some false, some false, some false, some false, some true, some false, some false, some false, some false, some false], _, rclampR7 a lo hi hb ty, ae_cons (h1) (ae_cons (h3) (ae_cons (h3) (ae_cons (h3) (ae_cons (h3) (ae_cons (h2) (ae_cons (h1) (ae_cons (h0) (ae_cons (h0) (ae_cons (h0) (ae_cons (h0) (ae_nil)))))))))))⟩
        · rw [cond_f h2] at hF
          rcases bool_cases (a != a) with h3 | h3
          · rw [cond_t h3] at hF
            cases hF
            exact ⟨rfl, 2000, [some false, some false, some false, some false, some false, some false, some true, some true, some true, some true, none], _, rclampR8 a lo hi hb ty, ae_cons (h3) (ae_cons (h3) (ae_cons (h3) (ae_cons (h3) (ae_cons (h2) (ae_cons (h1) (ae_cons (h0) (ae_cons (h0) (ae_cons (h0) (ae_cons (h0) (ae_nil))))))))))⟩
          · rw [cond_f h3] at hF
            cases hF
            exact ⟨rfl, 2000, [some false, some false, some false, some false, some false, some false, some false, some false, some false, some false, some false], _, rclampR9 a lo hi hb ty, ae_cons (h1) (ae_cons (h3) (ae_cons (h3) (ae_cons (h3) (ae_cons (h3) (ae_cons (h2) (ae_cons (h1) (ae_cons (h0) (ae_cons (h0) (ae_cons (h0) (ae_cons (h0) (ae_nil)))))))))))⟩
  · cases hF


def sizeS : List LV → Option (LV × List (Bool × Bool))
  | [.v (.one (.int .i64 a))] => some (.v (.one (.int .u64 (absV a))), [(isI a, true)])
  | _ => none
theorem sumSize : SumOK Try.prog 94 (pureSum sizeS) := by
  refine sumrsize.pure_re fun args v cs hF hc => ?_
  unfold sizeS at hF
  split at hF
  · rename_i a
    cases hF
    simp only [all_tt, isI_iff] at hc
    obtain ⟨⟨h0, h1⟩, -⟩ := hc
    by_cases h : a < 0
    · refine ⟨_, (cond_t (decide_eq_true h)).trans (oneI _ ?_), ae_nil⟩
      rw [absV_neg (by omega)]
      show u64 (w64 (0 - a)) = -a
      unfold u64 w64; omega
    · refine ⟨_, (cond_f (decide_eq_false h)).trans (oneI _ ?_), ae_nil⟩
      rw [absV_pos (by omega)]
      exact u64_in (by omega) (by omega)
  · cases hF

theorem prod_hilo (x y : Int) (hx0 : 0 ≤ x) (hx1 : x < 18446744073709551616) (hy0 : 0 ≤ y) (hy1 : y < 18446744073709551616) :
    u64 (u64 (u64 (x / 4294967296 * (y / 4294967296)) + u64 (u64 (x / 4294967296 * (y % 4294967296)) + u64 (x % 4294967296 * (y % 4294967296)) / 4294967296) / 4294967296) +
      u64 (u64 (x % 4294967296 * (y / 4294967296)) + (u64 (u64 (x / 4294967296 * (y % 4294967296)) + u64 (x % 4294967296 * (y % 4294967296)) / 4294967296)) % 4294967296) / 4294967296) = x * y / 18446744073709551616 ∧
    u64 (u64 (u64 (x % 4294967296 * (y / 4294967296)) + (u64 (u64 (x / 4294967296 * (y % 4294967296)) + u64 (x % 4294967296 * (y % 4294967296)) / 4294967296)) % 4294967296) * 4294967296) =
      (u64 (u64 (x % 4294967296 * (y / 4294967296)) + (u64 (u64 (x / 4294967296 * (y % 4294967296)) + u64 (x % 4294967296 * (y % 4294967296)) / 4294967296)) % 4294967296) % 4294967296) * 4294967296 ∧
    (u64 (u64 (x % 4294967296 * (y / 4294967296)) + (u64 (u64 (x / 4294967296 * (y % 4294967296)) + u64 (x % 4294967296 * (y % 4294967296)) / 4294967296)) % 4294967296) % 4294967296) * 4294967296 + u64 (x % 4294967296 * (y % 4294967296)) % 4294967296 = x * y % 18446744073709551616 := by
  have hb : ∀ a b : Int, 0 ≤ a → a ≤ 4294967295 → 0 ≤ b → b ≤ 4294967295 → 0 ≤ a * b ∧ a * b ≤ 18446744065119617025 := by
    intro a b h1 h2 h3 h4
    refine ⟨Int.mul_nonneg h1 h3, ?_⟩
    calc a * b ≤ 4294967295 * b := Int.mul_le_mul_of_nonneg_right h2 h3
      _ ≤ 4294967295 * 4294967295 := Int.mul_le_mul_of_nonneg_left h4 (by omega)
      _ = 18446744065119617025 := by decide
  have hprod : x * y = (x / 4294967296 * (y / 4294967296)) * 18446744073709551616 + ((x / 4294967296 * (y % 4294967296)) + (x % 4294967296 * (y / 4294967296))) * 4294967296 + x % 4294967296 * (y % 4294967296) := by
    have ex : x = x / 4294967296 * 4294967296 + x % 4294967296 := by omega
    have ey : y = y / 4294967296 * 4294967296 + y % 4294967296 := by omega
    generalize x / 4294967296 = x1 at *
    generalize x % 4294967296 = x0 at *
    generalize y / 4294967296 = y1 at *
    generalize y % 4294967296 = y0 at *
    rw [ex, ey]
    clear hb ex ey hx0 hx1 hy0 hy1
    grind
  have b1 := hb (x / 4294967296) (y / 4294967296) (by omega) (by omega) (by omega) (by omega)
  have b2 := hb (x / 4294967296) (y % 4294967296) (by omega) (by omega) (by omega) (by omega)
  have b3 := hb (x % 4294967296) (y / 4294967296) (by omega) (by omega) (by omega) (by omega)
  have b4 := hb (x % 4294967296) (y % 4294967296) (by omega) (by omega) (by omega) (by omega)
  rw [hprod]
  generalize x / 4294967296 * (y / 4294967296) = p11 at *
  generalize x / 4294967296 * (y % 4294967296) = p10 at *
  generalize x % 4294967296 * (y / 4294967296) = p01 at *
  generalize x % 4294967296 * (y % 4294967296) = p00 at *
  clear hprod hb
  rw [u64_in (x := p11) (by omega) (by omega), u64_in (x := p10) (by omega) (by omega), u64_in (x := p00) (by omega) (by omega), u64_in (x := p01) (by omega) (by omega)]
  rw [u64_in (x := p10 + p00 / 4294967296) (by omega) (by omega)]
  rw [u64_in (x := p01 + (p10 + p00 / 4294967296) % 4294967296) (by omega) (by omega)]
  unfold u64
  refine ⟨by omega, by omega, by omega⟩

def prodS : List LV → Option (LV × List (Bool × Bool))
  | [.v (.one (.int .u64 x)), .v (.one (.int .u64 y))] => some (.tup [.one (.int .u64 (wHi (x * y))), .one (.int .u64 (wLo (x * y)))], [(isU x, true), (isU y, true)])
  | _ => none
theorem tupI {k k' : IntKind} {a a' b b' : Int} (cs : List (Bool × Bool)) (h1 : a = a') (h2 : b = b') :
    some (LV.tup [V1.one (At.int k a), V1.one (At.int k' b)], cs) = some (LV.tup [V1.one (At.int k a'), V1.one (At.int k' b')], cs) := by subst h1; subst h2; rfl
theorem sumProd : SumOK Try.prog 123 (pureSum prodS) := by
  refine sumrprod.pure_re fun args v cs hF hc => ?_
  unfold prodS at hF
  split at hF
  · rename_i x y
    cases hF
    simp only [all_tt, isU_iff] at hc
    obtain ⟨⟨hx0, hx1⟩, ⟨hy0, hy1⟩, -⟩ := hc
    obtain ⟨g1, g2, g3⟩ := prod_hilo x y hx0 hx1 hy0 hy1
    have hu : ∀ t : Int, 0 ≤ u64 t ∧ u64 t < 18446744073709551616 := fun t => by unfold u64; omega
    refine ⟨[], tupI _ ?_ ?_, ae_nil⟩
    · rw [pow2_32u]
      simp only [wr_u]
      rw [land32 x hx0 hx1, land32 y hy0 hy1, land32 _ (hu _).1 (hu _).2]
      exact g1
    · rw [pow2_32u]
      simp only [wr_u]
      rw [land32 x hx0 hx1, land32 y hy0 hy1, land32 _ (hu _).1 (hu _).2, land32 _ (hu _).1 (hu _).2, g2]
      show _ = x * y % 18446744073709551616
      rw [← g3]
      generalize u64 (u64 (x % 4294967296 * (y / 4294967296)) + u64 (u64 (x / 4294967296 * (y % 4294967296)) + u64 (x % 4294967296 * (y % 4294967296)) / 4294967296) % 4294967296) = s at *
      generalize u64 (x % 4294967296 * (y % 4294967296)) = t at *
      have hp : pow2 32 = 4294967296 := rfl
      have := (ior_add (s % 4294967296) (t % 4294967296) 32 (by omega) (by omega) (by rw [hp]; omega) (by rw [hp]; omega)).1
      rw [hp] at this
      exact this
  · cases hF

def rlessS : List LV → Option (LV × List (Bool × Bool))
  | [.v (.agg [.int .u64 x, .int .u64 y, .bool n]), .v (.agg [.int .u64 x', .int .u64 y', .bool n'])] => some (.v (.one (.bool (decide (wVal x y < wVal x' y')))), [(isU y, true), (isU y', true)])
  | _ => none
theorem sumRless : SumOK Try.prog 132 (pureSum rlessS) := by
  refine sumrless.pure_re fun args v cs hF hc => ?_
  unfold rlessS at hF
  split at hF
  · rename_i x y n x' y' n'
    cases hF
    simp only [all_tt, isU_iff] at hc
    obtain ⟨⟨hy0, hy1⟩, ⟨hy0', hy1'⟩, -⟩ := hc
    by_cases h1 : x < x'
    · refine ⟨_, (cond_t (decide_eq_true h1)).trans (oneB _ ?_), ae_nil⟩
      symm; rw [decide_eq_true_eq]; unfold wVal; omega
    · by_cases h2 : x = x'
      · refine ⟨_, (cond_f (decide_eq_false h1)).trans ((cond_t (by simpa using h2)).trans (oneB _ ?_)), ae_nil⟩
        rw [decide_eq_decide]; subst h2; unfold wVal; omega
      · refine ⟨_, (cond_f (decide_eq_false h1)).trans ((cond_f (by simpa using h2)).trans (oneB _ ?_)), ae_nil⟩
        symm; rw [decide_eq_false_iff_not]; unfold wVal; omega
  · cases hF

theorem accR {x x' : Int} {b b' : Bool} (h1 : x = x') (h2 : b = b') : some (LV.v (V1.one (At.int .i64 x)), b, ([] : List (Bool × Bool))) = some (LV.v (V1.one (At.int .i64 x')), b', []) := by subst h1; subst h2; rfl
theorem sumRclamp (ty : TypeId) : SumOK Try.prog 95 (accSum ty clampF) := by
  refine (sumrclamp ty).acc_re fun args hb v h' cs hF hc => ?_
  unfold clampF at hF
  split at hF
  · rename_i a lo hi
    cases hF
    refine ⟨[], ?_, ae_nil⟩
    show rclampT a lo hi hb = some (I (clampV a lo hi), hb || clampH a lo hi, [])
    unfold rclampT clampV clampH I
    have e1 : (lo != a) = !decide (lo = a) := rfl
    have e2 : (hi != a) = !decide (hi = a) := rfl
    have e3 : (a != a) = !decide (a = a) := rfl
    rw [e1]
    try rw [e2]
    try rw [e3]
    by_cases h1 : a < lo <;> by_cases h2 : lo > hi <;> by_cases h3 : a > hi <;> by_cases h4 : lo = a <;> by_cases h5 : hi = a <;> simp [h1, h2, h3, h4, h5] <;> (try omega) <;> (try (subst h4; simp_all)) <;> (try (subst h5; simp_all)) <;> (try omega)
  · cases hF

noncomputable def R1S : FuncId → Option SumK := more (more (more (more S24 94 (pureSum sizeS)) 123 (pureSum prodS)) 132 (pureSum rlessS)) 95 (accAny clampF)
theorem soundR1 : Sound Try.prog R1S := (((sound24.more sumSize).more sumProd).more sumRless).more (accAny_ok sumRclamp)
end Go.Proofs.Ytmcbgolflbkndaa

/- The second reference's sums and products as signs and sizes, its clamping: runs (printed), and what they come to. -/
namespace Go.Proofs.Ytmcbgolflbkndaa
open Go.Lr
set_option linter.unusedVariables false
set_option linter.unusedSimpArgs false

theorem rmulR1 (a b : Int) : (runF Try.prog R1S Zl 2000 90 [.v (.one (.int .i64 a)), .v (.one (.int .i64 b))] [] 0 []).map (fun r => (r.1, r.2.2.2)) = some (LV.v (V1.agg [At.int IntKind.u64 (wHi (absV a * absV b)), At.int IntKind.u64 (wLo (absV a * absV b)), At.bool !decide (a < 0) == decide (b < 0)]), [(isU (absV a), true), (isU (absV b), true), (isI b, true), (isI a, true)]) := by kernel_rfl
def rmulT (a b : Int) : Option (LV × List (Bool × Bool)) := some (LV.v (V1.agg [At.int IntKind.u64 (wHi (absV a * absV b)), At.int IntKind.u64 (wLo (absV a * absV b)), At.bool !decide (a < 0) == decide (b < 0)]), [(isU (absV a), true), (isU (absV b), true), (isI b, true), (isI a, true)])
def rmulF : List LV → Option (LV × List (Bool × Bool))
  | [.v (.one (.int .i64 a)), .v (.one (.int .i64 b))] => rmulT a b
  | _ => none
theorem sumrmul : SumOK Try.prog 90 (pureSum rmulF) := by
  refine pureSum_run (z := Zl) soundR1 (own_of soundR1 Try.func90 (by kernel_rfl)) fun args v cs hF hc => ?_
  unfold rmulF at hF
  split at hF
  · rename_i a b
    unfold rmulT at hF
    cases hF
    exact ⟨2000, [], _, rmulR1 a b, ae_cons (hd_of (hc)) (ae_cons (hd_of (tl_of (hc))) (ae_cons (hd_of (tl_of (tl_of (hc)))) (ae_cons (hd_of (tl_of (tl_of (tl_of (hc))))) (ae_nil))))⟩
  · cases hF

theorem raddR1 (x y : Int) (n : Bool) (x' y' : Int) (n' : Bool) : (runF Try.prog R1S Zl 2000 124 [.v (.agg [.int .u64 x, .int .u64 y, .bool n]), .v (.agg [.int .u64 x', .int .u64 y', .bool n'])] [] 0 [some true, some true]).map (fun r => (r.1, r.2.2.2)) = some (LV.v (V1.agg [At.int IntKind.u64 (wr IntKind.u64 (wr IntKind.u64 (x + x') + 1)), At.int IntKind.u64 (wr IntKind.u64 (y + y')), At.bool n]), [(decide (wr IntKind.u64 (y + y') < y), true), (n == n', true)]) := by kernel_rfl
theorem raddR2 (x y : Int) (n : Bool) (x' y' : Int) (n' : Bool) : (runF Try.prog R1S Zl 2000 124 [.v (.agg [.int .u64 x, .int .u64 y, .bool n]), .v (.agg [.int .u64 x', .int .u64 y', .bool n'])] [] 0 [some true, some false]).map (fun r => (r.1, r.2.2.2)) = some (LV.v (V1.agg [At.int IntKind.u64 (wr IntKind.u64 (x + x')), At.int IntKind.u64 (wr IntKind.u64 (y + y')), At.bool n]), [(decide (wr IntKind.u64 (y + y') < y), false), (n == n', true)]) := by kernel_rfl
theorem raddR3 (x y : Int) (n : Bool) (x' y' : Int) (n' : Bool) : (runF Try.prog R1S Zl 2000 124 [.v (.agg [.int .u64 x, .int .u64 y, .bool n]), .v (.agg [.int .u64 x', .int .u64 y', .bool n'])] [] 0 [some false, some true, some true]).map (fun r => (r.1, r.2.2.2)) = some (LV.v (V1.agg [At.int IntKind.u64 (wr IntKind.u64 (wr IntKind.u64 (x' - x) - 1)), At.int IntKind.u64 (wr IntKind.u64 (y' - y)), At.bool n']), [(decide (y' < y), true), (decide (wVal x y < wVal x' y'), true), (isU y, true), (isU y', true), (n == n', false)]) := by kernel_rfl
theorem raddR4 (x y : Int) (n : Bool) (x' y' : Int) (n' : Bool) : (runF Try.prog R1S Zl 2000 124 [.v (.agg [.int .u64 x, .int .u64 y, .bool n]), .v (.agg [.int .u64 x', .int .u64 y', .bool n'])] [] 0 [some false, some true, some false]).map (fun r => (r.1, r.2.2.2)) = some (LV.v (V1.agg [At.int IntKind.u64 (wr IntKind.u64 (x' - x)), At.int IntKind.u64 (wr IntKind.u64 (y' - y)), At.bool n']), [(decide (y' < y), false), (decide (wVal x y < wVal x' y'), true), (isU y, true), (isU y', true), (n == n', false)]) := by kernel_rfl
theorem raddR5 (x y : Int) (n : Bool) (x' y' : Int) (n' : Bool) : (runF Try.prog R1S Zl 2000 124 [.v (.agg [.int .u64 x, .int .u64 y, .bool n]), .v (.agg [.int .u64 x', .int .u64 y', .bool n'])] [] 0 [some false, some false, some true]).map (fun r => (r.1, r.2.2.2)) = some (LV.v (V1.agg [At.int IntKind.u64 (wr IntKind.u64 (wr IntKind.u64 (x - x') - 1)), At.int IntKind.u64 (wr IntKind.u64 (y - y')), At.bool n]), [(decide (y < y'), true), (decide (wVal x y < wVal x' y'), false), (isU y, true), (isU y', true), (n == n', false)]) := by kernel_rfl
theorem raddR6 (x y : Int) (n : Bool) (x' y' : Int) (n' : Bool) : (runF Try.prog R1S Zl 2000 124 [.v (.agg [.int .u64 x, .int .u64 y, .bool n]), .v (.agg [.int .u64 x', .int .u64 y', .bool n'])] [] 0 [some false, some false, some false]).map (fun r => (r.1, r.2.2.2)) = some (LV.v (V1.agg [At.int IntKind.u64 (wr IntKind.u64 (x - x')), At.int IntKind.u64 (wr IntKind.u64 (y - y')), At.bool n]), [(decide (y < y'), false), (decide (wVal x y < wVal x' y'), false), (isU y, true), (isU y', true), (n == n', false)]) := by kernel_rfl
def raddT (x y : Int) (n : Bool) (x' y' : Int) (n' : Bool) : Option (LV × List (Bool × Bool)) := 
  bif (n == n') then 
    bif (decide (wr IntKind.u64 (y + y') < y)) then some (LV.v (V1.agg [At.int IntKind.u64 (wr IntKind.u64 (wr IntKind.u64 (x + x') + 1)), At.int IntKind.u64 (wr IntKind.u64 (y + y')), At.bool n]), [])
    else some (LV.v (V1.agg [At.int IntKind.u64 (wr IntKind.u64 (x + x')), At.int IntKind.u64 (wr IntKind.u64 (y + y')), At.bool n]), [])
  else 
    bif (decide (wVal x y < wVal x' y')) then 
      bif (decide (y' < y)) then some (LV.v (V1.agg [At.int IntKind.u64 (wr IntKind.u64 (wr IntKind.u64 (x' - x) - 1)), At.int IntKind.u64 (wr IntKind.u64 (y' - y)), At.bool n']), [(isU y, true), (isU y', true)])
      else some (LV.v (V1.agg [At.int IntKind.u64 (wr IntKind.u64 (x' - x)), At.int IntKind.u64 (wr IntKind.u64 (y' - y)), At.bool n']), [(isU y, true), (isU y', true)])
    else 
      bif (decide (y < y')) then some (LV.v (V1.agg [At.int IntKind.u64 (wr IntKind.u64 (wr IntKind.u64 (x - x') - 1)), At.int IntKind.u64 (wr IntKind.u64 (y - y')), At.bool n]), [(isU y, true), (isU y', true)])
      else some (LV.v (V1.agg [At.int IntKind.u64 (wr IntKind.u64 (x - x')), At.int IntKind.u64 (wr IntKind.u64 (y - y')), At.bool n]), [(isU y, true), (isU y', true)])
def raddF : List LV → Option (LV × List (Bool × Bool))
  | [.v (.agg [.int .u64 x, .int .u64 y, .bool n]), .v (.agg [.int .u64 x', .int .u64 y', .bool n'])] => raddT x y n x' y' n'
  | _ => none
theorem sumradd : SumOK Try.prog 124 (pureSum raddF) := by
  refine pureSum_run (z := Zl) soundR1 (own_of soundR1 Try.func124 (by kernel_rfl)) fun args v cs hF hc => ?_
  unfold raddF at hF
  split at hF
  · rename_i x y n x' y' n'
    unfold raddT at hF
    rcases bool_cases (n == n') with h0 | h0
    · rw [cond_t h0] at hF
      rcases bool_cases (decide (wr IntKind.u64 (y + y') < y)) with h1 | h1
      · rw [cond_t h1] at hF
        cases hF
        exact ⟨2000, [some true, some true], _, raddR1 x y n x' y' n', ae_cons (h1) (ae_cons (h0) (ae_nil))⟩
      · rw [cond_f h1] at hF
        cases hF
        exact ⟨2000, [some true, some false], _, raddR2 x y n x' y' n', ae_cons (h1) (ae_cons (h0) (ae_nil))⟩
    · rw [cond_f h0] at hF
      rcases bool_cases (decide (wVal x y < wVal x' y')) with h1 | h1
      · rw [cond_t h1] at hF
        rcases bool_cases (decide (y' < y)) with h2 | h2
        · rw [cond_t h2] at hF
          cases hF
          exact ⟨2000, [some false, some true, some true], _, raddR3 x y n x' y' n', ae_cons (h2) (ae_cons (h1) (ae_cons (hd_of (hc)) (ae_cons (hd_of (tl_of (hc))) (ae_cons (h0) (ae_nil)))))⟩
        · rw [cond_f h2] at hF
          cases hF
          exact ⟨2000, [some false, some true, some false], _, raddR4 x y n x' y' n', ae_cons (h2) (ae_cons (h1) (ae_cons (hd_of (hc)) (ae_cons (hd_of (tl_of (hc))) (ae_cons (h0) (ae_nil)))))⟩
      · rw [cond_f h1] at hF
        rcases bool_cases (decide (y < y')) with h2 | h2
        · rw [cond_t h2] at hF
          cases hF
          exact ⟨2000, [some false, some false, some true], _, raddR5 x y n x' y' n', ae_cons (h2) (ae_cons (h1) (ae_cons (hd_of (hc)) (ae_cons (hd_of (tl_of (hc))) (ae_cons (h0) (ae_nil)))))⟩
        · rw [cond_f h2] at hF
          cases hF
          exact ⟨2000, [some false, some false, some false], _, raddR6 x y n x' y' n', ae_cons (h2) (ae_cons (h1) (ae_cons (hd_of (hc)) (ae_cons (hd_of (tl_of (hc))) (ae_cons (h0) (ae_nil)))))⟩
  · cases hF

theorem rsatR1 (a : Int) (hb : Bool) (ty : TypeId) : (runF Try.prog R1S Zl 2000 91 [A0, .v (.one (.int .i64 a))] [(0, flag ty hb)] 1 []).map acc3 = some (LV.v (V1.one (At.int IntKind.i64 (clampV a (-1152921504606846976) 1152921504606846976))), some { ty := ty, fr := (0, 0), es := 0, cells := [At.bool (hb || clampH a (-1152921504606846976) 1152921504606846976)] }, []) := by kernel_rfl
def rsatT (a : Int) (hb : Bool) : Option (LV × Bool × List (Bool × Bool)) := some (LV.v (V1.one (At.int IntKind.i64 (clampV a (-1152921504606846976) 1152921504606846976))), (hb || clampH a (-1152921504606846976) 1152921504606846976), [])
def rsatF : List LV → Bool → Option (LV × Bool × List (Bool × Bool))
  | [.v (.one (.int .i64 a))], hb => rsatT a hb
  | _, _ => none
theorem sumrsat (ty : TypeId) : SumOK Try.prog 91 (accSum ty rsatF) := by
  refine accSum_run (z := Zl) soundR1 (own_of soundR1 Try.func91 (by kernel_rfl)) fun args hb v h' cs hF hc => ?_
  unfold rsatF at hF
  split at hF
  · rename_i a
    unfold rsatT at hF
    cases hF
    exact ⟨rfl, 2000, [], _, rsatR1 a hb ty, ae_nil⟩
  · cases hF

theorem rendR1 (x y : Int) (n : Bool) (hb : Bool) (ty : TypeId) : (runF Try.prog R1S Zl 2000 92 [A0, .v (.agg [.int .u64 x, .int .u64 y, .bool n])] [(0, flag ty hb)] 1 [some true, some true, some true, some true, none, some true]).map acc3 = some (LV.v (V1.one (At.int IntKind.i64 (wr IntKind.i64 (0 - 1152921504606846976)))), some { ty := ty, fr := (0, 0), es := 0, cells := [At.bool true] }, [(n, true), (decide (x > 0), true), (decide (x > 0), true), (decide (x > 0), true), (decide (x > 0), true)]) := by kernel_rfl
theorem rendR2 (x y : Int) (n : Bool) (hb : Bool) (ty : TypeId) : (runF Try.prog R1S Zl 2000 92 [A0, .v (.agg [.int .u64 x, .int .u64 y, .bool n])] [(0, flag ty hb)] 1 [some true, some true, some true, some true, none, some false]).map acc3 = some (LV.v (V1.one (At.int IntKind.i64 1152921504606846976)), some { ty := ty, fr := (0, 0), es := 0, cells := [At.bool true] }, [(n, false), (decide (x > 0), true), (decide (x > 0), true), (decide (x > 0), true), (decide (x > 0), true)]) := by kernel_rfl
theorem rendR3 (x y : Int) (n : Bool) (hb : Bool) (ty : TypeId) : (runF Try.prog R1S Zl 2000 92 [A0, .v (.agg [.int .u64 x, .int .u64 y, .bool n])] [(0, flag ty hb)] 1 [some false, some false, some false, some false, some true, some true]).map acc3 = some (LV.v (V1.one (At.int IntKind.i64 (wr IntKind.i64 (0 - 1152921504606846976)))), some { ty := ty, fr := (0, 0), es := 0, cells := [At.bool true] }, [(n, true), (decide (y > 1152921504606846976), true), (decide (x > 0), false), (decide (x > 0), false), (decide (x > 0), false), (decide (x > 0), false)]) := by kernel_rfl
theorem rendR4 (x y : Int) (n : Bool) (hb : Bool) (ty : TypeId) : (runF Try.prog R1S Zl 2000 92 [A0, .v (.agg [.int .u64 x, .int .u64 y, .bool n])] [(0, flag ty hb)] 1 [some false, some false, some false, some false, some true, some false]).map acc3 = some (LV.v (V1.one (At.int IntKind.i64 1152921504606846976)), some { ty := ty, fr := (0, 0), es := 0, cells := [At.bool true] }, [(n, false), (decide (y > 1152921504606846976), true), (decide (x > 0), false), (decide (x > 0), false), (decide (x > 0), false), (decide (x > 0), false)]) := by kernel_rfl
theorem rendR5 (x y : Int) (n : Bool) (hb : Bool) (ty : TypeId) : (runF Try.prog R1S Zl 2000 92 [A0, .v (.agg [.int .u64 x, .int .u64 y, .bool n])] [(0, flag ty hb)] 1 [some false, some false, some false, some false, some false, some true]).map acc3 = some (LV.v (V1.one (At.int IntKind.i64 (wr IntKind.i64 (0 - wr IntKind.i64 y)))), some { ty := ty, fr := (0, 0), es := 0, cells := [At.bool hb] }, [(n, true), (decide (y > 1152921504606846976), false), (decide (x > 0), false), (decide (x > 0), false), (decide (x > 0), false), (decide (x > 0), false)]) := by kernel_rfl
theorem rendR6 (x y : Int) (n : Bool) (hb : Bool) (ty : TypeId) : (runF Try.prog R1S Zl 2000 92 [A0, .v (.agg [.int .u64 x, .int .u64 y, .bool n])] [(0, flag ty hb)] 1 [some false, some false, some false, some false, some false, some false]).map acc3 = some (LV.v (V1.one (At.int IntKind.i64 (wr IntKind.i64 y))), some { ty := ty, fr := (0, 0), es := 0, cells := [At.bool hb] }, [(n, false), (decide (y > 1152921504606846976), false), (decide (x > 0), false), (decide (x > 0), false), (decide (x > 0), false), (decide (x > 0), false)]) := by kernel_rfl
def rendT (x y : Int) (n : Bool) (hb : Bool) : Option (LV × Bool × List (Bool × Bool)) := 
  bif (decide (x > 0)) then 
    bif (n) then some (LV.v (V1.one (At.int IntKind.i64 (wr IntKind.i64 (0 - 1152921504606846976)))), (true), [])
    else some (LV.v (V1.one (At.int IntKind.i64 1152921504606846976)), (true), [])
  else 
    bif (decide (y > 1152921504606846976)) then 
      bif (n) then some (LV.v (V1.one (At.int IntKind.i64 (wr IntKind.i64 (0 - 1152921504606846976)))), (true), [])
      else some (LV.v (V1.one (At.int IntKind.i64 1152921504606846976)), (true), [])
    else 
      bif (n) then some (LV.v (V1.one (At.int IntKind.i64 (wr IntKind.i64 (0 - wr IntKind.i64 y)))), (hb), [])
      else some (LV.v (V1.one (At.int IntKind.i64 (wr IntKind.i64 y))), (hb), [])
def rendF : List LV → Bool → Option (LV × Bool × List (Bool × Bool))
  | [.v (.agg [.int .u64 x, .int .u64 y, .bool n])], hb => rendT x y n hb
  | _, _ => none
theorem sumrend (ty : TypeId) : SumOK Try.prog 92 (accSum ty rendF) := by
  refine accSum_run (z := Zl) soundR1 (own_of soundR1 Try.func92 (by kernel_rfl)) fun args hb v h' cs hF hc => ?_
  unfold rendF at hF
  split at hF
  · rename_i x y n
    unfold rendT at hF
    rcases bool_cases (decide (x > 0)) with h0 | h0
    · rw [cond_t h0] at hF
      rcases bool_cases (n) with h1 | h1
      · rw [cond_t h1] at hF
        cases hF
        exact ⟨rfl, 2000, [some true, some true, some true, some true, none, some true], _, rendR1 x y n hb ty, ae_cons (h1) (ae_cons (h0) (ae_cons (h0) (ae_cons (h0) (ae_cons (h0) (ae_nil)))))⟩
      · rw [cond_f h1] at hF
        cases hF
        exact ⟨rfl, 2000, [some true, some true, some true, some true, none, some false], _, rendR2 x y n hb ty, ae_cons (h1) (ae_cons (h0) (ae_cons (h0) (ae_cons (h0) (ae_cons (h0) (ae_nil)))))⟩
    · rw [cond_f h0] at hF
      rcases bool_cases (decide (y > 1152921504606846976)) with h1 | h1
      · rw [cond_t h1] at hF
        rcases bool_cases (n) with h2 | h2
        · rw [cond_t h2] at hF
          cases hF
          exact ⟨rfl, 2000, [some false, some false, some false, some false, some true, some true], _, rendR3 x y n hb ty, ae_cons (h2) (ae_cons (h1) (ae_cons (h0) (ae_cons (h0) (ae_cons (h0) (ae_cons (h0) (ae_nil))))))⟩
        · rw [cond_f h2] at hF
          cases hF
          exact ⟨rfl, 2000, [some false, some false, some false, some false, some true, some false], _, rendR4 x y n hb ty, ae_cons (h2) (ae_cons (h1) (ae_cons (h0) (ae_cons (h0) (ae_cons (h0) (ae_cons (h0) (ae_nil))))))⟩
      · rw [cond_f h1] at hF
        rcases bool_cases (n) with h2 | h2
        · rw [cond_t h2] at hF
          cases hF
          exact ⟨rfl, 2000, [some false, some false, some false, some false, some false, some true], _, rendR5 x y n hb ty, ae_cons (h2) (ae_cons (h1) (ae_cons (h0) (ae_cons (h0) (ae_cons (h0) (ae_cons (h0) (ae_nil))))))⟩
        · rw [cond_f h2] at hF
          cases hF
          exact ⟨rfl, 2000, [some false, some false, some false, some false, some false, some false], _, rendR6 x y n hb ty, ae_cons (h2) (ae_cons (h1) (ae_cons (h0) (ae_cons (h0) (ae_cons (h0) (ae_cons (h0) (ae_nil))))))⟩
  · cases hF


/-- A size and a sign. -/
def RB (m : Int) (n : Bool) : V1 := .agg [.int .u64 (wHi m), .int .u64 (wLo m), .bool n]
theorem isU_abs {a : Int} (h0 : -9223372036854775808 ≤ a) (h1 : a < 9223372036854775808) : isU (absV a) = true := by
  rw [isU_iff]; unfold absV; split <;> omega
def rmulS : List LV → Option (LV × List (Bool × Bool))
  | [.v (.one (.int .i64 a)), .v (.one (.int .i64 b))] => some (.v (RB (absV a * absV b) (!(decide (a < 0) == decide (b < 0)))), [(isI a, true), (isI b, true)])
  | _ => none
theorem sumRmul : SumOK Try.prog 90 (pureSum rmulS) := by
  refine sumrmul.pure_re fun args v cs hF hc => ?_
  unfold rmulS at hF
  split at hF
  · rename_i a b
    cases hF
    simp only [all_tt, isI_iff] at hc
    obtain ⟨⟨a0, a1⟩, ⟨b0, b1⟩, -⟩ := hc
    refine ⟨_, rfl, ?_⟩
    simp only [all_tt, isI_iff, isU_abs a0 a1, isU_abs b0 b1]
    exact ⟨trivial, trivial, ⟨b0, b1⟩, ⟨a0, a1⟩, ae_nil⟩
  · cases hF

/-- The sum of two. -/
def addM (m : Int) (n : Bool) (m' : Int) (n' : Bool) : Int := if n = n' then m + m' else if m < m' then m' - m else m - m'
def addN (m : Int) (n : Bool) (m' : Int) (n' : Bool) : Bool := if n = n' then n else if m < m' then n' else n
def raddS : List LV → Option (LV × List (Bool × Bool))
  | [.v (.agg [.int .u64 x, .int .u64 y, .bool n]), .v (.agg [.int .u64 x', .int .u64 y', .bool n'])] =>
    some (.v (RB (addM (wVal x y) n (wVal x' y') n') (addN (wVal x y) n (wVal x' y') n')), [(isU x, true), (isU y, true), (isU x', true), (isU y', true), (decide (wVal x y + wVal x' y' < 340282366920938463463374607431768211456), true)])
  | _ => none
theorem agg3 {k k' : IntKind} {a a' b b' : Int} {c c' : Bool} (cs : List (Bool × Bool)) (h1 : a = a') (h2 : b = b') (h3 : c = c') :
    some (LV.v (V1.agg [At.int k a, At.int k' b, At.bool c]), cs) = some (LV.v (V1.agg [At.int k a', At.int k' b', At.bool c']), cs) := by subst h1; subst h2; subst h3; rfl
theorem sumRadd : SumOK Try.prog 124 (pureSum raddS) := by
  refine sumradd.pure_re fun args v cs hF hc => ?_
  unfold raddS at hF
  split at hF
  · rename_i x y n x' y' n'
    cases hF
    simp only [all_tt, isU_iff, decide_eq_true_eq] at hc
    obtain ⟨⟨x0, x1⟩, ⟨y0, y1⟩, ⟨x0', x1'⟩, ⟨y0', y1'⟩, hs, -⟩ := hc
    show ∃ cs', raddT x y n x' y' n' = _ ∧ _
    have hyy : ∀ c ∈ [(isU y, true), (isU y', true)], c.1 = c.2 := by simp only [all_tt, isU_iff]; exact ⟨⟨y0, y1⟩, ⟨y0', y1'⟩, ae_nil⟩
    unfold raddT addM addN
    by_cases hn : n = n'
    · rw [if_pos hn, if_pos hn, cond_t (by simpa using hn)]
      by_cases hc : wr IntKind.u64 (y + y') < y
      · rw [cond_t (decide_eq_true hc)]
        refine ⟨_, agg3 _ ?_ ?_ rfl, ae_nil⟩
        · simp only [wr_u] at hc ⊢; unfold u64 at *; unfold wHi wVal at *; omega
        · simp only [wr_u] at hc ⊢; unfold u64 at *; unfold wLo wVal at *; omega
      · rw [cond_f (decide_eq_false hc)]
        refine ⟨_, agg3 _ ?_ ?_ rfl, ae_nil⟩
        · simp only [wr_u] at hc ⊢; unfold u64 at *; unfold wHi wVal at *; omega
        · simp only [wr_u] at hc ⊢; unfold u64 at *; unfold wLo wVal at *; omega
    · rw [if_neg hn, if_neg hn, cond_f (by simpa using hn)]
      by_cases hl : wVal x y < wVal x' y'
      · rw [if_pos hl, if_pos hl, cond_t (decide_eq_true hl)]
        by_cases hc : y' < y
        · rw [cond_t (decide_eq_true hc)]
          refine ⟨_, agg3 _ ?_ ?_ rfl, hyy⟩
          · simp only [wr_u]; unfold u64 wHi; unfold wVal at *; omega
          · simp only [wr_u]; unfold u64 wLo; unfold wVal at *; omega
        · rw [cond_f (decide_eq_false hc)]
          refine ⟨_, agg3 _ ?_ ?_ rfl, hyy⟩
          · simp only [wr_u]; unfold u64 wHi; unfold wVal at *; omega
          · simp only [wr_u]; unfold u64 wLo; unfold wVal at *; omega
      · rw [if_neg hl, if_neg hl, cond_f (decide_eq_false hl)]
        by_cases hc : y < y'
        · rw [cond_t (decide_eq_true hc)]
          refine ⟨_, agg3 _ ?_ ?_ rfl, hyy⟩
          · simp only [wr_u]; unfold u64 wHi; unfold wVal at *; omega
          · simp only [wr_u]; unfold u64 wLo; unfold wVal at *; omega
        · rw [cond_f (decide_eq_false hc)]
          refine ⟨_, agg3 _ ?_ ?_ rfl, hyy⟩
          · simp only [wr_u]; unfold u64 wHi; unfold wVal at *; omega
          · simp only [wr_u]; unfold u64 wLo; unfold wVal at *; omega
  · cases hF

theorem sumRsat (ty : TypeId) : SumOK Try.prog 91 (accSum ty satF) := by
  refine (sumrsat ty).acc_re fun args hb v h' cs hF hc => ?_
  unfold satF at hF
  split at hF
  · cases hF
    exact ⟨[], rfl, ae_nil⟩
  · cases hF

def rendS : List LV → Bool → Option (LV × Bool × List (Bool × Bool))
  | [.v (.agg [.int .u64 x, .int .u64 y, .bool n])], hb => some (I (satV (sgn n (wVal x y))), hb || satH (sgn n (wVal x y)), [(isU x, true), (isU y, true)])
  | _, _ => none
theorem sumR2end (ty : TypeId) : SumOK Try.prog 92 (accSum ty rendS) := by
  refine (sumrend ty).acc_re fun args hb v h' cs hF hc => ?_
  unfold rendS at hF
  split at hF
  · rename_i x y n
    cases hF
    simp only [all_tt, isU_iff] at hc
    obtain ⟨⟨x0, x1⟩, ⟨y0, y1⟩, -⟩ := hc
    refine ⟨[], ?_, ae_nil⟩
    show rendT x y n hb = _
    have hM : wr IntKind.i64 (0 - 1152921504606846976) = -1152921504606846976 := by decide
    unfold rendT sgn I
    rw [hM]
    by_cases h1 : x > 0
    · rw [cond_t (decide_eq_true h1)]
      have : wVal x y > 1152921504606846976 := by unfold wVal; omega
      cases n with
      | true => simp only [cond_true, if_true]; rw [sat_lo (a := -wVal x y) (by omega), satH_out (a := -wVal x y) (by omega), Bool.or_true]
      | false => simp only [cond_false, Bool.false_eq_true, if_false]; rw [sat_hi (a := wVal x y) (by omega), satH_out (a := wVal x y) (by omega), Bool.or_true]
    · rw [cond_f (decide_eq_false h1)]
      have h0 : x = 0 := by omega
      have hv : wVal x y = y := by unfold wVal; omega
      rw [hv]
      by_cases h2 : y > 1152921504606846976
      · rw [cond_t (decide_eq_true h2)]
        cases n with
        | true => simp only [cond_true, if_true]; rw [sat_lo (a := -y) (by omega), satH_out (a := -y) (by omega), Bool.or_true]
        | false => simp only [cond_false, Bool.false_eq_true, if_false]; rw [sat_hi (a := y) (by omega), satH_out (a := y) (by omega), Bool.or_true]
      · rw [cond_f (decide_eq_false h2)]
        have e1 : wr IntKind.i64 y = y := w64_in (by omega) (by omega)
        have e2 : wr IntKind.i64 (0 - y) = -y := by have := w64_in (x := 0 - y) (by omega) (by omega); rw [wr_i, this]; omega
        rw [e1, e2]
        cases n with
        | true => simp only [cond_true, if_true]; rw [sat_in (a := -y) (by omega) (by omega), satH_in (a := -y) (by omega) (by omega), Bool.or_false]
        | false => simp only [cond_false, Bool.false_eq_true, if_false]; rw [sat_in (a := y) (by omega) (by omega), satH_in (a := y) (by omega) (by omega), Bool.or_false]
  · cases hF

noncomputable def R2S : FuncId → Option SumK := more (more (more (more R1S 90 (pureSum rmulS)) 124 (pureSum raddS)) 91 (accAny satF)) 92 (accAny rendS)
theorem soundR2 : Sound Try.prog R2S := (((soundR1.more sumRmul).more sumRadd).more (accAny_ok sumRsat)).more (accAny_ok sumR2end)
end Go.Proofs.Ytmcbgolflbkndaa

/- The second reference's shifting by 30, sizes, sums of two: runs (printed), and what they come to. -/
namespace Go.Proofs.Ytmcbgolflbkndaa
open Go.Lr
set_option linter.unusedVariables false
set_option linter.unusedSimpArgs false

def rshiftT (x y : Int) (n : Bool) : Option (LV × List (Bool × Bool)) := some (LV.v (V1.agg [At.int IntKind.u64 (wHi (addM (wVal x y) n (wVal 0 (wr IntKind.u64 (1 * pow2 (min (wr IntKind.u64 (wr IntKind.i64 (30 - 1))).toNat IntKind.u64.bits)))) n) / pow2 (min (wr IntKind.u64 30).toNat IntKind.u64.bits)), At.int IntKind.u64 (Int.ofNat ((u64 (wLo (addM (wVal x y) n (wVal 0 (wr IntKind.u64 (1 * pow2 (min (wr IntKind.u64 (wr IntKind.i64 (30 - 1))).toNat IntKind.u64.bits)))) n) / pow2 (min (wr IntKind.u64 30).toNat IntKind.u64.bits))).toNat.lor (u64 (wr IntKind.u64 (wHi (addM (wVal x y) n (wVal 0 (wr IntKind.u64 (1 * pow2 (min (wr IntKind.u64 (wr IntKind.i64 (30 - 1))).toNat IntKind.u64.bits)))) n) * pow2 (min (wr IntKind.u64 (wr IntKind.i64 (64 - 30))).toNat IntKind.u64.bits)))).toNat)), At.bool (addN (wVal x y) n (wVal 0 (wr IntKind.u64 (1 * pow2 (min (wr IntKind.u64 (wr IntKind.i64 (30 - 1))).toNat IntKind.u64.bits)))) n)]), [(decide (wr IntKind.u64 (wr IntKind.i64 (64 - 30)) < 0), false), (decide (wr IntKind.u64 30 < 0), false), (isU x, true), (isU y, true), (isU 0, true), (isU (wr IntKind.u64 (1 * pow2 (min (wr IntKind.u64 (wr IntKind.i64 (30 - 1))).toNat IntKind.u64.bits))), true), (decide (wVal x y + wVal 0 (wr IntKind.u64 (1 * pow2 (min (wr IntKind.u64 (wr IntKind.i64 (30 - 1))).toNat IntKind.u64.bits))) < 340282366920938463463374607431768211456), true), (decide (wr IntKind.u64 (wr IntKind.i64 (30 - 1)) < 0), false)])
def rshiftF : List LV → Option (LV × List (Bool × Bool))
  | [.v (.agg [.int .u64 x, .int .u64 y, .bool n]), .v (.one (.int .i64 30))] => rshiftT x y n
  | _ => none
def rabsT (a : Int) : Option (LV × List (Bool × Bool)) := 
  bif (decide (satV a < 0)) then some (LV.v (V1.one (At.int IntKind.i64 (wr IntKind.i64 (0 - satV a)))), [])
  else some (LV.v (V1.one (At.int IntKind.i64 (satV a))), [])
def rabsF : List LV → Option (LV × List (Bool × Bool))
  | [.v (.one (.int .i64 a))] => rabsT a
  | _ => none
def raddcT (a b : Int) (hb : Bool) : Option (LV × Bool × List (Bool × Bool)) := some (LV.v (V1.one (At.int IntKind.i64 (satV (wr IntKind.i64 (satV a + satV b))))), (hb || satH a || satH b || satH (wr IntKind.i64 (satV a + satV b))), [])
def raddcF : List LV → Bool → Option (LV × Bool × List (Bool × Bool))
  | [.v (.one (.int .i64 a)), .v (.one (.int .i64 b))], hb => raddcT a b hb
  | _, _ => none
def rshiftS : List LV → Option (LV × List (Bool × Bool))
  | [.v (.agg [.int .u64 x, .int .u64 y, .bool n]), .v (.one (.int .i64 30))] => some (.v (RB ((wVal x y + 536870912) / 1073741824) n), [(isU x, true), (isU y, true), (decide (wVal x y + 536870912 < 340282366920938463463374607431768211456), true)])
  | _ => none
def rabsS : List LV → Option (LV × List (Bool × Bool))
  | [.v (.one (.int .i64 a))] => some (I (fabsV a), [])
  | _ => none
def raddcS : List LV → Bool → Option (LV × Bool × List (Bool × Bool))
  | [.v (.one (.int .i64 a)), .v (.one (.int .i64 b))], hb => some (I (faddV [a, b]), hb || faddH [a, b], [])
  | _, _ => none
noncomputable def R3S : FuncId → Option SumK := R2S
theorem soundR3 : Sound Try.prog R3S := soundR2
end Go.Proofs.Ytmcbgolflbkndaa

/- Facts of rounding, dividing, roots, clamping: plain. -/
namespace Go.Proofs.Ytmcbgolflbkndaa
open Go.Lr
set_option linter.unusedVariables false

theorem sat_mono {a b : Int} (h : a ≤ b) : satV a ≤ satV b := by
  unfold satV clampV; (repeat' split) <;> omega
theorem sat_odd (a : Int) : satV (-a) = -satV a := by
  unfold satV clampV; (repeat' split) <;> omega
theorem satH_iff {a : Int} : satH a = false ↔ -1152921504606846976 ≤ a ∧ a ≤ 1152921504606846976 := by
  constructor
  · intro h
    by_cases h1 : a < -1152921504606846976 ∨ 1152921504606846976 < a
    · rw [satH_out h1] at h; cases h
    · omega
  · exact fun h => satH_in h.1 h.2
theorem sat_sat (a : Int) : satV (satV a) = satV a := by have := sat_bd a; exact sat_in this.1 this.2
theorem satH_sat (a : Int) : satH (satV a) = false := by have := sat_bd a; exact satH_in this.1 this.2

theorem rnd_pos {w : Int} (h : 0 ≤ w) (s : Nat) : rndV w s = (w + halfP s) / pow2 s := by
  unfold rndV sgn
  rw [absV_pos h]
  have : ¬ w < 0 := by omega
  simp [this]
theorem rnd_neg {w : Int} (h : w ≤ 0) (s : Nat) : rndV w s = -((-w + halfP s) / pow2 s) := by
  by_cases h0 : w = 0
  · subst h0
    rw [rnd_pos (Int.le_refl 0)]
    have h1 := halfP_le s
    have h2 := pow2_pos s
    have h3 : halfP s < pow2 s := by
      cases s with
      | zero => decide
      | succ n => have := pow2_pos n; show pow2 n < _; rw [pow2_succ]; omega
    have e : (0 + halfP s) / pow2 s = 0 := Int.ediv_eq_zero_of_lt (by omega) (by omega)
    rw [e, Int.neg_zero, e, Int.neg_zero]
  · unfold rndV sgn
    rw [absV_neg h]
    have : w < 0 := by omega
    simp [this]
theorem rnd_odd (w : Int) (s : Nat) : rndV (-w) s = -rndV w s := by
  by_cases h : 0 ≤ w
  · rw [rnd_neg (by omega), rnd_pos h, Int.neg_neg]
  · rw [rnd_pos (by omega), rnd_neg (w := w) (by omega), Int.neg_neg]
theorem rnd_mono {v w : Int} (h : v ≤ w) (s : Nat) : rndV v s ≤ rndV w s := by
  have hp := pow2_pos s
  have hh := (halfP_le s).1
  by_cases h0 : 0 ≤ v
  · rw [rnd_pos h0, rnd_pos (by omega)]
    exact Int.ediv_le_ediv hp (by omega)
  · by_cases h1 : 0 ≤ w
    · rw [rnd_neg (by omega), rnd_pos h1]
      have a := Int.ediv_nonneg (a := -v + halfP s) (b := pow2 s) (by omega) (by omega)
      have b := Int.ediv_nonneg (a := w + halfP s) (b := pow2 s) (by omega) (by omega)
      omega
    · rw [rnd_neg (by omega), rnd_neg (by omega)]
      have := Int.ediv_le_ediv (a := -w + halfP s) (b := -v + halfP s) hp (by omega)
      omega
theorem halfP_two (s : Nat) : 2 * halfP s ≤ pow2 s ∧ (s = 0 ∧ halfP s = 0 ∧ pow2 s = 1 ∨ 2 * halfP s = pow2 s) := by
  cases s with
  | zero => exact ⟨by decide, .inl ⟨rfl, rfl, rfl⟩⟩
  | succ n => rw [pow2_succ]; exact ⟨Int.le_refl _, .inr rfl⟩
theorem rnd_bd (w : Int) (s : Nat) : -(pow2 s) ≤ 2 * (rndV w s * pow2 s - w) ∧ 2 * (rndV w s * pow2 s - w) ≤ pow2 s := by
  have hp := pow2_pos s
  have hh := halfP_two s
  have h1 := (halfP_le s).1
  have key : ∀ u : Int, 0 ≤ u → -(pow2 s) ≤ 2 * ((u + halfP s) / pow2 s * pow2 s - u) ∧ 2 * ((u + halfP s) / pow2 s * pow2 s - u) ≤ pow2 s := by
    intro u hu
    have e := Int.emod_add_mul_ediv (u + halfP s) (pow2 s)
    have a := Int.emod_nonneg (u + halfP s) (show pow2 s ≠ 0 by omega)
    have b := Int.emod_lt_of_pos (u + halfP s) hp
    rw [Int.mul_comm (pow2 s)] at e
    generalize (u + halfP s) / pow2 s * pow2 s = q at *
    generalize (u + halfP s) % pow2 s = r at *
    omega
  by_cases h : 0 ≤ w
  · rw [rnd_pos h]; exact key w h
  · rw [rnd_neg (by omega)]
    have := key (-w) (by omega)
    rw [Int.neg_mul]
    omega

theorem quo_bd {a b : Int} (ha : 0 ≤ a) (hb : 0 < b) : -b ≤ 2 * (quoR a b * b - a) ∧ 2 * (quoR a b * b - a) ≤ b := by
  have e := Int.emod_add_mul_ediv a b
  have h0 := Int.emod_nonneg a (show b ≠ 0 by omega)
  have h1 := Int.emod_lt_of_pos a hb
  rw [Int.mul_comm b] at e
  unfold quoR
  split
  · have e2 : (a / b + 1) * b = a / b * b + b := by grind
    rw [e2]; omega
  · omega
theorem div_pos {a b : Int} (ha : 0 ≤ a) (hb : 0 < b) : divV a b = quoR a b := by
  unfold divV
  rw [absV_pos ha, absV_pos (by omega)]
  have h1 : ¬ a < 0 := by omega
  have h2 : ¬ b < 0 := by omega
  simp [h1, h2, sgn]
theorem div_exact (k d : Int) (hd : d ≠ 0) : divV (k * d) d = k := by
  have hq : ∀ x y : Int, 0 < y → quoR (x * y) y = x := by
    intro x y hy
    unfold quoR
    rw [Int.mul_emod_left, Int.mul_ediv_cancel _ (by omega), if_neg (by omega)]
  have hd0 : 0 < absV d := by unfold absV; split <;> omega
  unfold divV
  rw [absV_mul, hq _ _ hd0]
  have hs := sgn_abs k
  by_cases hk : k = 0
  · subst hk; simp [absV, sgn]
  · by_cases h1 : k < 0 <;> by_cases h2 : d < 0
    · have : ¬ k * d < 0 := by have := Int.mul_pos_of_neg_of_neg h1 h2; omega
      simp [this, h1, h2] at hs ⊢; exact hs
    · have : k * d < 0 := Int.mul_neg_of_neg_of_pos h1 (by omega)
      simp [this, h1, h2] at hs ⊢; exact hs
    · have : k * d < 0 := Int.mul_neg_of_pos_of_neg (by omega) h2
      simp [this, h1, h2] at hs ⊢; exact hs
    · have : ¬ k * d < 0 := by have := Int.mul_pos (show 0 < k by omega) (show 0 < d by omega); omega
      simp [this, h1, h2] at hs ⊢; exact hs

/-- Roots: bounds, order. -/
theorem root_le {N m : Int} (h0 : 0 ≤ N) (h1 : N < 340282366920938463463374607431768211456) (hm : 0 ≤ m) (h : N ≤ m * m + m) : rootW N ≤ m := by
  obtain ⟨a, b, c⟩ := rootW_spec h0 h1
  generalize rootW N = r at *
  rcases Int.lt_or_le m r with hlt | hle
  · exfalso
    rcases c with rfl | c
    · omega
    · have e : r * r - r = r * (r - 1) := by grind
      have : (m + 1) * m ≤ r * (r - 1) := Int.mul_le_mul (by omega) (by omega) hm a
      have e2 : (m + 1) * m = m * m + m := by grind
      omega
  · exact hle
theorem root_ge {N m : Int} (h0 : 0 ≤ N) (h1 : N < 340282366920938463463374607431768211456) (h : m ≤ 0 ∨ m * m - m < N) : m ≤ rootW N := by
  obtain ⟨a, b, c⟩ := rootW_spec h0 h1
  generalize rootW N = r at *
  rcases h with h | h
  · omega
  · rcases Int.lt_or_le r m with hlt | hle
    · exfalso
      have e : r * r + r = r * (r + 1) := by grind
      have : r * (r + 1) ≤ (m - 1) * m := Int.mul_le_mul (by omega) (by omega) (by omega) (by omega)
      have e2 : (m - 1) * m = m * m - m := by grind
      omega
    · exact hle
theorem root_mono {M N : Int} (h0 : 0 ≤ M) (h1 : N < 340282366920938463463374607431768211456) (h : M ≤ N) : rootW M ≤ rootW N := by
  obtain ⟨a, b, c⟩ := rootW_spec (N := N) (by omega) h1
  exact root_le h0 (by omega) a (by omega)
end Go.Proofs.Ytmcbgolflbkndaa

/- The second reference's division, bit by bit: its walk, and what it comes to. -/
namespace Go.Proofs.Ytmcbgolflbkndaa
open Go.Lr
set_option linter.unusedVariables false
set_option linter.unusedSimpArgs false

theorem rvA (dead : Nat → Value) (x y : Int) (n : Bool) (d : Int) : projS [1,2,4,5,6] [0,1,2] (execL Try.prog R3S Zl 400 (spineL 3 (bodyF Try.prog 93)) (Kst.st ⟨argsL 0 [.v (.agg [.int .u64 x, .int .u64 y, .bool n]), .v (.one (.int .u64 d))], [], 0⟩ 71 dead [])) = some (Ex.normal, [LV.v (V1.one (At.int IntKind.u64 d)), LV.v (V1.one (At.ptr 0 0)), LV.v (V1.one (At.ptr 1 0)), LV.v (V1.one (At.ptr 2 0)), LV.v (V1.one (At.int IntKind.u64 0))], [some { ty := 125, fr := (0, 0), es := 0, cells := [At.int IntKind.u64 x, At.int IntKind.u64 y, At.bool n] }, some { ty := 125, fr := (0, 0), es := 0, cells := [At.int IntKind.u64 0, At.int IntKind.u64 0, At.bool false] }, some { ty := 125, fr := (0, 0), es := 0, cells := [At.int IntKind.u64 0, At.int IntKind.u64 0, At.bool n] }], []) := by kernel_rfl
theorem rvB (dead : Nat → Value) (x y : Int) (n : Bool) (d r p q : Int) : projS [1,2,4,5,6,7] [0,1,2] (exec Try.prog R3S Zl 400 (.code (c1 (c1 (c2 (c2 (c2 (bodyF Try.prog 93))))))) (Kst.st ⟨[(1, .v (.one (.int .u64 d))), (2, .v (.one (.ptr 0 0))), (4, .v (.one (.ptr 1 0))), (5, .v (.one (.ptr 2 0))), (6, .v (.one (.int .u64 r)))], [(0, ⟨125, (0,0), 0, [.int .u64 x, .int .u64 y, .bool n]⟩), (1, ⟨125, (0,0), 0, [.int .u64 0, .int .u64 0, .bool false]⟩), (2, ⟨125, (0,0), 0, [.int .u64 p, .int .u64 q, .bool n]⟩)], 3⟩ 71 dead [])) = some (Ex.normal, [LV.v (V1.one (At.int IntKind.u64 d)), LV.v (V1.one (At.ptr 0 0)), LV.v (V1.one (At.ptr 1 0)), LV.v (V1.one (At.ptr 2 0)), LV.v (V1.one (At.int IntKind.u64 r)), LV.v (V1.one (At.int IntKind.i64 127))], [some { ty := 125, fr := (0, 0), es := 0, cells := [At.int IntKind.u64 x, At.int IntKind.u64 y, At.bool n] }, some { ty := 125, fr := (0, 0), es := 0, cells := [At.int IntKind.u64 0, At.int IntKind.u64 0, At.bool false] }, some { ty := 125, fr := (0, 0), es := 0, cells := [At.int IntKind.u64 p, At.int IntKind.u64 q, At.bool n] }], []) := by kernel_rfl
theorem rvHt (dead : Nat → Value) (x y : Int) (n : Bool) (d r p q i : Int) : projS [1,2,4,5,6,7] [0,1,2] (exec Try.prog R3S Zl 400 (.code (c1 (c1 (c2 (c1 (c2 (c2 (c2 (bodyF Try.prog 93))))))))) (Kst.st ⟨[(1, .v (.one (.int .u64 d))), (2, .v (.one (.ptr 0 0))), (4, .v (.one (.ptr 1 0))), (5, .v (.one (.ptr 2 0))), (6, .v (.one (.int .u64 r))), (7, .v (.one (.int .i64 i)))], [(0, ⟨125, (0,0), 0, [.int .u64 x, .int .u64 y, .bool n]⟩), (1, ⟨125, (0,0), 0, [.int .u64 0, .int .u64 0, .bool false]⟩), (2, ⟨125, (0,0), 0, [.int .u64 p, .int .u64 q, .bool n]⟩)], 3⟩ 71 dead [some true, some true, some true, some true])) = some (Ex.normal, [LV.v (V1.one (At.int IntKind.u64 d)), LV.v (V1.one (At.ptr 0 0)), LV.v (V1.one (At.ptr 1 0)), LV.v (V1.one (At.ptr 2 0)), LV.v (V1.one (At.int IntKind.u64 (wr IntKind.u64 (Int.ofNat ((u64 (wr IntKind.u64 (r * pow2 (min (Int.toNat 1) IntKind.u64.bits)))).toNat.lor (u64 (Int.ofNat ((u64 (x / pow2 (min (wr IntKind.u64 (w64 (Int.ofNat ((u64 i).toNat.land (u64 63).toNat)))).toNat IntKind.u64.bits))).toNat.land (u64 1).toNat))).toNat) - d)))), LV.v (V1.one (At.int IntKind.i64 (wr IntKind.i64 (i - 1))))], [some { ty := 125, fr := (0, 0), es := 0, cells := [At.int IntKind.u64 x, At.int IntKind.u64 y, At.bool n] }, some { ty := 125, fr := (0, 0), es := 0, cells := [At.int IntKind.u64 0, At.int IntKind.u64 0, At.bool false] }, some { ty := 125, fr := (0, 0), es := 0, cells := [At.int IntKind.u64 (Int.ofNat ((u64 p).toNat.lor (u64 (wr IntKind.u64 (1 * pow2 (min (wr IntKind.u64 (w64 (Int.ofNat ((u64 i).toNat.land (u64 63).toNat)))).toNat IntKind.u64.bits)))).toNat)), At.int IntKind.u64 q, At.bool n] }], [(decide (wr IntKind.u64 (w64 (Int.ofNat ((u64 i).toNat.land (u64 63).toNat))) < 0), false), (decide (i ≥ 64), true), (decide (Int.ofNat ((u64 (wr IntKind.u64 (r * pow2 (min (Int.toNat 1) IntKind.u64.bits)))).toNat.lor (u64 (Int.ofNat ((u64 (x / pow2 (min (wr IntKind.u64 (w64 (Int.ofNat ((u64 i).toNat.land (u64 63).toNat)))).toNat IntKind.u64.bits))).toNat.land (u64 1).toNat))).toNat) ≥ d), true), (decide (wr IntKind.u64 (w64 (Int.ofNat ((u64 i).toNat.land (u64 63).toNat))) < 0), false), (decide (i ≥ 64), true), (decide (wr IntKind.u64 (w64 (Int.ofNat ((u64 i).toNat.land (u64 63).toNat))) < 0), false), (decide (i ≥ 0), true)]) := by kernel_rfl
theorem rvHf (dead : Nat → Value) (x y : Int) (n : Bool) (d r p q i : Int) : projS [1,2,4,5,6,7] [0,1,2] (exec Try.prog R3S Zl 400 (.code (c1 (c1 (c2 (c1 (c2 (c2 (c2 (bodyF Try.prog 93))))))))) (Kst.st ⟨[(1, .v (.one (.int .u64 d))), (2, .v (.one (.ptr 0 0))), (4, .v (.one (.ptr 1 0))), (5, .v (.one (.ptr 2 0))), (6, .v (.one (.int .u64 r))), (7, .v (.one (.int .i64 i)))], [(0, ⟨125, (0,0), 0, [.int .u64 x, .int .u64 y, .bool n]⟩), (1, ⟨125, (0,0), 0, [.int .u64 0, .int .u64 0, .bool false]⟩), (2, ⟨125, (0,0), 0, [.int .u64 p, .int .u64 q, .bool n]⟩)], 3⟩ 71 dead [some true, some true, some false])) = some (Ex.normal, [LV.v (V1.one (At.int IntKind.u64 d)), LV.v (V1.one (At.ptr 0 0)), LV.v (V1.one (At.ptr 1 0)), LV.v (V1.one (At.ptr 2 0)), LV.v (V1.one (At.int IntKind.u64 (Int.ofNat ((u64 (wr IntKind.u64 (r * pow2 (min (Int.toNat 1) IntKind.u64.bits)))).toNat.lor (u64 (Int.ofNat ((u64 (x / pow2 (min (wr IntKind.u64 (w64 (Int.ofNat ((u64 i).toNat.land (u64 63).toNat)))).toNat IntKind.u64.bits))).toNat.land (u64 1).toNat))).toNat)))), LV.v (V1.one (At.int IntKind.i64 (wr IntKind.i64 (i - 1))))], [some { ty := 125, fr := (0, 0), es := 0, cells := [At.int IntKind.u64 x, At.int IntKind.u64 y, At.bool n] }, some { ty := 125, fr := (0, 0), es := 0, cells := [At.int IntKind.u64 0, At.int IntKind.u64 0, At.bool false] }, some { ty := 125, fr := (0, 0), es := 0, cells := [At.int IntKind.u64 p, At.int IntKind.u64 q, At.bool n] }], [(decide (Int.ofNat ((u64 (wr IntKind.u64 (r * pow2 (min (Int.toNat 1) IntKind.u64.bits)))).toNat.lor (u64 (Int.ofNat ((u64 (x / pow2 (min (wr IntKind.u64 (w64 (Int.ofNat ((u64 i).toNat.land (u64 63).toNat)))).toNat IntKind.u64.bits))).toNat.land (u64 1).toNat))).toNat) ≥ d), false), (decide (wr IntKind.u64 (w64 (Int.ofNat ((u64 i).toNat.land (u64 63).toNat))) < 0), false), (decide (i ≥ 64), true), (decide (wr IntKind.u64 (w64 (Int.ofNat ((u64 i).toNat.land (u64 63).toNat))) < 0), false), (decide (i ≥ 0), true)]) := by kernel_rfl
theorem rvLt (dead : Nat → Value) (x y : Int) (n : Bool) (d r p q i : Int) : projS [1,2,4,5,6,7] [0,1,2] (exec Try.prog R3S Zl 400 (.code (c1 (c1 (c2 (c1 (c2 (c2 (c2 (bodyF Try.prog 93))))))))) (Kst.st ⟨[(1, .v (.one (.int .u64 d))), (2, .v (.one (.ptr 0 0))), (4, .v (.one (.ptr 1 0))), (5, .v (.one (.ptr 2 0))), (6, .v (.one (.int .u64 r))), (7, .v (.one (.int .i64 i)))], [(0, ⟨125, (0,0), 0, [.int .u64 x, .int .u64 y, .bool n]⟩), (1, ⟨125, (0,0), 0, [.int .u64 0, .int .u64 0, .bool false]⟩), (2, ⟨125, (0,0), 0, [.int .u64 p, .int .u64 q, .bool n]⟩)], 3⟩ 71 dead [some true, some false, some true, some false])) = some (Ex.normal, [LV.v (V1.one (At.int IntKind.u64 d)), LV.v (V1.one (At.ptr 0 0)), LV.v (V1.one (At.ptr 1 0)), LV.v (V1.one (At.ptr 2 0)), LV.v (V1.one (At.int IntKind.u64 (wr IntKind.u64 (Int.ofNat ((u64 (wr IntKind.u64 (r * pow2 (min (Int.toNat 1) IntKind.u64.bits)))).toNat.lor (u64 (Int.ofNat ((u64 (y / pow2 (min (wr IntKind.u64 (w64 (Int.ofNat ((u64 i).toNat.land (u64 63).toNat)))).toNat IntKind.u64.bits))).toNat.land (u64 1).toNat))).toNat) - d)))), LV.v (V1.one (At.int IntKind.i64 (wr IntKind.i64 (i - 1))))], [some { ty := 125, fr := (0, 0), es := 0, cells := [At.int IntKind.u64 x, At.int IntKind.u64 y, At.bool n] }, some { ty := 125, fr := (0, 0), es := 0, cells := [At.int IntKind.u64 0, At.int IntKind.u64 0, At.bool false] }, some { ty := 125, fr := (0, 0), es := 0, cells := [At.int IntKind.u64 p, At.int IntKind.u64 (Int.ofNat ((u64 q).toNat.lor (u64 (wr IntKind.u64 (1 * pow2 (min (wr IntKind.u64 (w64 (Int.ofNat ((u64 i).toNat.land (u64 63).toNat)))).toNat IntKind.u64.bits)))).toNat)), At.bool n] }], [(decide (wr IntKind.u64 (w64 (Int.ofNat ((u64 i).toNat.land (u64 63).toNat))) < 0), false), (decide (i ≥ 64), false), (decide (Int.ofNat ((u64 (wr IntKind.u64 (r * pow2 (min (Int.toNat 1) IntKind.u64.bits)))).toNat.lor (u64 (Int.ofNat ((u64 (y / pow2 (min (wr IntKind.u64 (w64 (Int.ofNat ((u64 i).toNat.land (u64 63).toNat)))).toNat IntKind.u64.bits))).toNat.land (u64 1).toNat))).toNat) ≥ d), true), (decide (i ≥ 64), false), (decide (wr IntKind.u64 (w64 (Int.ofNat ((u64 i).toNat.land (u64 63).toNat))) < 0), false), (decide (i ≥ 0), true)]) := by kernel_rfl
theorem rvLf (dead : Nat → Value) (x y : Int) (n : Bool) (d r p q i : Int) : projS [1,2,4,5,6,7] [0,1,2] (exec Try.prog R3S Zl 400 (.code (c1 (c1 (c2 (c1 (c2 (c2 (c2 (bodyF Try.prog 93))))))))) (Kst.st ⟨[(1, .v (.one (.int .u64 d))), (2, .v (.one (.ptr 0 0))), (4, .v (.one (.ptr 1 0))), (5, .v (.one (.ptr 2 0))), (6, .v (.one (.int .u64 r))), (7, .v (.one (.int .i64 i)))], [(0, ⟨125, (0,0), 0, [.int .u64 x, .int .u64 y, .bool n]⟩), (1, ⟨125, (0,0), 0, [.int .u64 0, .int .u64 0, .bool false]⟩), (2, ⟨125, (0,0), 0, [.int .u64 p, .int .u64 q, .bool n]⟩)], 3⟩ 71 dead [some true, some false, some false])) = some (Ex.normal, [LV.v (V1.one (At.int IntKind.u64 d)), LV.v (V1.one (At.ptr 0 0)), LV.v (V1.one (At.ptr 1 0)), LV.v (V1.one (At.ptr 2 0)), LV.v (V1.one (At.int IntKind.u64 (Int.ofNat ((u64 (wr IntKind.u64 (r * pow2 (min (Int.toNat 1) IntKind.u64.bits)))).toNat.lor (u64 (Int.ofNat ((u64 (y / pow2 (min (wr IntKind.u64 (w64 (Int.ofNat ((u64 i).toNat.land (u64 63).toNat)))).toNat IntKind.u64.bits))).toNat.land (u64 1).toNat))).toNat)))), LV.v (V1.one (At.int IntKind.i64 (wr IntKind.i64 (i - 1))))], [some { ty := 125, fr := (0, 0), es := 0, cells := [At.int IntKind.u64 x, At.int IntKind.u64 y, At.bool n] }, some { ty := 125, fr := (0, 0), es := 0, cells := [At.int IntKind.u64 0, At.int IntKind.u64 0, At.bool false] }, some { ty := 125, fr := (0, 0), es := 0, cells := [At.int IntKind.u64 p, At.int IntKind.u64 q, At.bool n] }], [(decide (Int.ofNat ((u64 (wr IntKind.u64 (r * pow2 (min (Int.toNat 1) IntKind.u64.bits)))).toNat.lor (u64 (Int.ofNat ((u64 (y / pow2 (min (wr IntKind.u64 (w64 (Int.ofNat ((u64 i).toNat.land (u64 63).toNat)))).toNat IntKind.u64.bits))).toNat.land (u64 1).toNat))).toNat) ≥ d), false), (decide (i ≥ 64), false), (decide (wr IntKind.u64 (w64 (Int.ofNat ((u64 i).toNat.land (u64 63).toNat))) < 0), false), (decide (i ≥ 0), true)]) := by kernel_rfl
theorem rvE (dead : Nat → Value) (x y : Int) (n : Bool) (d r p q i : Int) : projS [1,2,4,5,6] [0,1,2] (exec Try.prog R3S Zl 400 (.code (c1 (c1 (c2 (c1 (c2 (c2 (c2 (bodyF Try.prog 93))))))))) (Kst.st ⟨[(1, .v (.one (.int .u64 d))), (2, .v (.one (.ptr 0 0))), (4, .v (.one (.ptr 1 0))), (5, .v (.one (.ptr 2 0))), (6, .v (.one (.int .u64 r))), (7, .v (.one (.int .i64 i)))], [(0, ⟨125, (0,0), 0, [.int .u64 x, .int .u64 y, .bool n]⟩), (1, ⟨125, (0,0), 0, [.int .u64 0, .int .u64 0, .bool false]⟩), (2, ⟨125, (0,0), 0, [.int .u64 p, .int .u64 q, .bool n]⟩)], 3⟩ 71 dead [some false])) = some (Ex.exit 0, [LV.v (V1.one (At.int IntKind.u64 d)), LV.v (V1.one (At.ptr 0 0)), LV.v (V1.one (At.ptr 1 0)), LV.v (V1.one (At.ptr 2 0)), LV.v (V1.one (At.int IntKind.u64 r))], [some { ty := 125, fr := (0, 0), es := 0, cells := [At.int IntKind.u64 x, At.int IntKind.u64 y, At.bool n] }, some { ty := 125, fr := (0, 0), es := 0, cells := [At.int IntKind.u64 0, At.int IntKind.u64 0, At.bool false] }, some { ty := 125, fr := (0, 0), es := 0, cells := [At.int IntKind.u64 p, At.int IntKind.u64 q, At.bool n] }], [(decide (i ≥ 0), false)]) := by kernel_rfl
theorem rvFt (dead : Nat → Value) (x y : Int) (n : Bool) (d r p q : Int) : projS [4] [1] (exec Try.prog R3S Zl 400 (.code (c2 (c2 (c2 (c2 (bodyF Try.prog 93)))))) (Kst.st ⟨[(1, .v (.one (.int .u64 d))), (2, .v (.one (.ptr 0 0))), (4, .v (.one (.ptr 1 0))), (5, .v (.one (.ptr 2 0))), (6, .v (.one (.int .u64 r)))], [(0, ⟨125, (0,0), 0, [.int .u64 x, .int .u64 y, .bool n]⟩), (1, ⟨125, (0,0), 0, [.int .u64 0, .int .u64 0, .bool false]⟩), (2, ⟨125, (0,0), 0, [.int .u64 p, .int .u64 q, .bool n]⟩)], 3⟩ 71 dead [some true])) = some (Ex.ret, [LV.v (V1.one (At.ptr 1 0))], [some { ty := 125, fr := (0, 0), es := 0, cells := [At.int IntKind.u64 (wHi (addM (wVal p q) n (wVal 0 1) n)), At.int IntKind.u64 (wLo (addM (wVal p q) n (wVal 0 1) n)), At.bool (addN (wVal p q) n (wVal 0 1) n)] }], [(isU p, true), (isU q, true), (isU 0, true), (isU 1, true), (decide (wVal p q + wVal 0 1 < 340282366920938463463374607431768211456), true), (decide (r ≥ wr IntKind.u64 (d - r)), true)]) := by kernel_rfl
theorem rvFf (dead : Nat → Value) (x y : Int) (n : Bool) (d r p q : Int) : projS [4] [1] (exec Try.prog R3S Zl 400 (.code (c2 (c2 (c2 (c2 (bodyF Try.prog 93)))))) (Kst.st ⟨[(1, .v (.one (.int .u64 d))), (2, .v (.one (.ptr 0 0))), (4, .v (.one (.ptr 1 0))), (5, .v (.one (.ptr 2 0))), (6, .v (.one (.int .u64 r)))], [(0, ⟨125, (0,0), 0, [.int .u64 x, .int .u64 y, .bool n]⟩), (1, ⟨125, (0,0), 0, [.int .u64 0, .int .u64 0, .bool false]⟩), (2, ⟨125, (0,0), 0, [.int .u64 p, .int .u64 q, .bool n]⟩)], 3⟩ 71 dead [some false])) = some (Ex.ret, [LV.v (V1.one (At.ptr 1 0))], [some { ty := 125, fr := (0, 0), es := 0, cells := [At.int IntKind.u64 p, At.int IntKind.u64 q, At.bool n] }], [(decide (r ≥ wr IntKind.u64 (d - r)), false)]) := by kernel_rfl

theorem land63 (x : Int) (h0 : 0 ≤ x) (h1 : x < 18446744073709551616) : Int.ofNat ((u64 x).toNat.land (u64 63).toNat) = x % 64 := by
  have e : (u64 63).toNat = 2 ^ 6 - 1 := by decide
  rw [u64_in h0 h1, e]
  show ((x.toNat &&& (2 ^ 6 - 1) : Nat) : Int) = _
  rw [Nat.and_two_pow_sub_one_eq_mod]
  omega
theorem land1 (x : Int) (h0 : 0 ≤ x) (h1 : x < 18446744073709551616) : Int.ofNat ((u64 x).toNat.land (u64 1).toNat) = x % 2 := by
  have e : (u64 1).toNat = 2 ^ 1 - 1 := by decide
  rw [u64_in h0 h1, e]
  show ((x.toNat &&& (2 ^ 1 - 1) : Nat) : Int) = _
  rw [Nat.and_two_pow_sub_one_eq_mod]
  omega
theorem idx63 (i : Int) (h0 : 0 ≤ i) (h1 : i < 128) : wr IntKind.u64 (w64 (Int.ofNat ((u64 i).toNat.land (u64 63).toNat))) = i % 64 := by
  rw [land63 i h0 (by omega), wr_u]
  unfold u64 w64; omega
theorem pshift {j : Int} (h0 : 0 ≤ j) (h1 : j < 64) : pow2 (min j.toNat IntKind.u64.bits) = pow2 j.toNat := by rw [min64 h0 (by omega)]
theorem lorBit {r b : Int} (h0 : 0 ≤ r) (h1 : r < 9223372036854775808) (b0 : 0 ≤ b) (b1 : b ≤ 1) :
    Int.ofNat ((u64 (wr IntKind.u64 (r * pow2 (min (Int.toNat 1) IntKind.u64.bits)))).toNat.lor (u64 b).toNat) = 2 * r + b := by
  have hp : pow2 (min (Int.toNat 1) IntKind.u64.bits) = pow2 1 := by decide
  have hp2 : pow2 1 = 2 := rfl
  have e := (ior_add r b 1 h0 b0 (by rw [hp2]; omega) (by rw [hp2]; omega)).1
  rw [hp, wr_u, u64_in (x := r * pow2 1) (by rw [hp2]; omega) (by rw [hp2]; omega), e, hp2]
  omega
theorem div_pow_add (A : Int) (m n : Nat) : A / pow2 m / pow2 n = A / pow2 (m + n) := by
  rw [pow2_add, Int.ediv_ediv_of_nonneg (Int.le_of_lt (pow2_pos m))]
theorem bit_hi (A : Int) (j : Nat) : wHi A / pow2 j % 2 = A / pow2 (j + 64) % 2 := by
  unfold wHi
  rw [← pow2_64, div_pow_add, Nat.add_comm]
theorem bit_lo (A : Int) (j : Nat) (hj : j < 64) : wLo A / pow2 j % 2 = A / pow2 j % 2 := by
  unfold wLo
  have hp := pow2_pos j
  have hs : (18446744073709551616 : Int) = pow2 j * (2 * pow2 (63 - j)) := by
    rw [← pow2_succ, ← pow2_add, ← pow2_64]; congr 1; omega
  have h1 := Int.emod_add_mul_ediv A 18446744073709551616
  have h2 : A = A % 18446744073709551616 + pow2 j * (2 * pow2 (63 - j) * (A / 18446744073709551616)) := by
    rw [← Int.mul_assoc, ← hs]; omega
  have h3 : A / pow2 j = A % 18446744073709551616 / pow2 j + 2 * pow2 (63 - j) * (A / 18446744073709551616) := by
    conv => lhs; rw [h2]
    rw [Int.add_mul_ediv_left _ _ (by omega)]
  rw [h3, Int.mul_assoc]; omega
/-- One more bit. -/
theorem rv_step (A d : Int) (k : Nat) (hd : 0 < d) : A / pow2 k = 2 * (A / pow2 (k + 1)) + A / pow2 k % 2 ∧ 0 ≤ A / pow2 k % 2 ∧ A / pow2 k % 2 ≤ 1 ∧
    (2 * (A / pow2 (k + 1) % d) + A / pow2 k % 2 < d → A / pow2 k / d = 2 * (A / pow2 (k + 1) / d) ∧ A / pow2 k % d = 2 * (A / pow2 (k + 1) % d) + A / pow2 k % 2) ∧
    (¬ 2 * (A / pow2 (k + 1) % d) + A / pow2 k % 2 < d → A / pow2 k / d = 2 * (A / pow2 (k + 1) / d) + 1 ∧ A / pow2 k % d = 2 * (A / pow2 (k + 1) % d) + A / pow2 k % 2 - d) := by
  have e1 : A / pow2 (k + 1) = A / pow2 k / 2 := by have := div_pow_add A k 1; rw [← this]; rfl
  have hq := Int.emod_add_mul_ediv (A / pow2 (k + 1)) d
  have h0 := Int.emod_nonneg (A / pow2 (k + 1)) (show d ≠ 0 by omega)
  have h1 := Int.emod_lt_of_pos (A / pow2 (k + 1)) hd
  generalize A / pow2 k = a0 at *
  generalize A / pow2 (k + 1) = a1 at *
  generalize a1 / d = Q at *
  generalize a1 % d = r at *
  have e2 : a0 = 2 * a1 + a0 % 2 := by omega
  have e3 : 2 * a1 = 2 * Q * d + 2 * r := by rw [← hq]; grind
  refine ⟨e2, by omega, by omega, fun h => ?_, fun h => ?_⟩
  · have e4 : a0 = 2 * Q * d + (2 * r + a0 % 2) := by omega
    exact ⟨ediv_unique e4 (by omega) h, emod_unique e4 (by omega) h⟩
  · have e5 : (2 * Q + 1) * d = 2 * Q * d + d := by grind
    have e4 : a0 = (2 * Q + 1) * d + (2 * r + a0 % 2 - d) := by omega
    exact ⟨ediv_unique e4 (by omega) (by omega), emod_unique e4 (by omega) (by omega)⟩

theorem orb_hi (Q : Int) (j : Nat) (hQ : 0 ≤ Q) (hV : Q * pow2 (j + 64 + 1) + pow2 (j + 64) < 340282366920938463463374607431768211456) :
    Int.ofNat ((u64 (wHi (Q * pow2 (j + 64 + 1)))).toNat.lor (u64 (wr IntKind.u64 (1 * pow2 j))).toNat) = wHi (Q * pow2 (j + 64 + 1) + pow2 (j + 64)) ∧ wLo (Q * pow2 (j + 64 + 1)) = wLo (Q * pow2 (j + 64 + 1) + pow2 (j + 64)) := by
  have e1 : pow2 (j + 64) = pow2 j * 18446744073709551616 := by rw [pow2_add, pow2_64]
  have e2 : pow2 (j + 64 + 1) = pow2 (j + 1) * 18446744073709551616 := by rw [show j + 64 + 1 = (j + 1) + 64 by omega, pow2_add, pow2_64]
  have hp := pow2_pos j
  have hs := pow2_succ j
  rw [e1, e2] at hV ⊢
  have e3 : Q * (pow2 (j + 1) * 18446744073709551616) = Q * pow2 (j + 1) * 18446744073709551616 := by rw [Int.mul_assoc]
  rw [e3] at hV ⊢
  have hnn : 0 ≤ Q * pow2 (j + 1) := Int.mul_nonneg hQ (by omega)
  have hw : wHi (Q * pow2 (j + 1) * 18446744073709551616) = Q * pow2 (j + 1) := by unfold wHi; omega
  have e4 := (ior_add Q (pow2 j) (j + 1) hQ (by omega) (by omega) (by omega)).1
  rw [hw, wr_u, Int.one_mul, u64_in (x := pow2 j) (by omega) (by omega), e4]
  refine ⟨?_, ?_⟩
  · unfold wHi; omega
  · unfold wLo; omega
theorem orb_lo (Q : Int) (j : Nat) (hj : j < 64) (hQ : 0 ≤ Q) :
    Int.ofNat ((u64 (wLo (Q * pow2 (j + 1)))).toNat.lor (u64 (wr IntKind.u64 (1 * pow2 j))).toNat) = wLo (Q * pow2 (j + 1) + pow2 j) ∧ wHi (Q * pow2 (j + 1)) = wHi (Q * pow2 (j + 1) + pow2 j) := by
  have hp := pow2_pos j
  have hs := pow2_succ j
  have hm : (18446744073709551616 : Int) = pow2 (j + 1) * pow2 (63 - j) := by rw [← pow2_add, ← pow2_64]; congr 1; omega
  have hp2 := pow2_pos (63 - j)
  have hq := Int.emod_add_mul_ediv Q (pow2 (63 - j))
  have h0 := Int.emod_nonneg Q (show pow2 (63 - j) ≠ 0 by omega)
  have h1 := Int.emod_lt_of_pos Q hp2
  generalize Q % pow2 (63 - j) = u at *
  generalize Q / pow2 (63 - j) = v at *
  have e1 : Q * pow2 (j + 1) = v * 18446744073709551616 + u * pow2 (j + 1) := by rw [hm, ← hq]; grind
  have hu0 : 0 ≤ u * pow2 (j + 1) := Int.mul_nonneg h0 (by omega)
  have hu1 : u * pow2 (j + 1) ≤ 18446744073709551616 - pow2 (j + 1) := by
    have : u * pow2 (j + 1) ≤ (pow2 (63 - j) - 1) * pow2 (j + 1) := Int.mul_le_mul_of_nonneg_right (by omega) (by omega)
    have e : (pow2 (63 - j) - 1) * pow2 (j + 1) = pow2 (j + 1) * pow2 (63 - j) - pow2 (j + 1) := by grind
    omega
  have e2 : wLo (Q * pow2 (j + 1)) = u * pow2 (j + 1) := by rw [e1]; unfold wLo; omega
  have e4 := (ior_add u (pow2 j) (j + 1) h0 (by omega) (by omega) (by omega)).1
  rw [e2, wr_u, Int.one_mul, u64_in (x := pow2 j) (by omega) (by omega), e4, e1]
  refine ⟨?_, ?_⟩
  · unfold wLo; omega
  · unfold wHi; omega

noncomputable def rvBd : Code := c1 (c2 (c2 (c2 (bodyF Try.prog 93))))
def wideB (v : Int) (n : Bool) : Blk := ⟨125, (0, 0), 0, [.int .u64 (wHi v), .int .u64 (wLo v), .bool n]⟩
def zeroB : Blk := ⟨125, (0, 0), 0, [.int .u64 0, .int .u64 0, .bool false]⟩
def rvSA (A : Int) (n : Bool) (d r V i : Int) : Kst := ⟨[(1, .v (.one (.int .u64 d))), (2, .v (.one (.ptr 0 0))), (4, .v (.one (.ptr 1 0))), (5, .v (.one (.ptr 2 0))), (6, .v (.one (.int .u64 r))), (7, .v (.one (.int .i64 i)))], [(0, wideB A n), (1, zeroB), (2, wideB V n)], 3⟩
def rvSB (A : Int) (n : Bool) (d r V : Int) : Kst := ⟨[(1, .v (.one (.int .u64 d))), (2, .v (.one (.ptr 0 0))), (4, .v (.one (.ptr 1 0))), (5, .v (.one (.ptr 2 0))), (6, .v (.one (.int .u64 r)))], [(0, wideB A n), (1, zeroB), (2, wideB V n)], 3⟩
theorem blk3 {ty : TypeId} {k k' : IntKind} {a a' b b' : Int} {n : Bool} (h1 : a = a') (h2 : b = b') : (⟨ty, (0, 0), 0, [.int k a, .int k' b, .bool n]⟩ : Blk) = ⟨ty, (0, 0), 0, [.int k a', .int k' b', .bool n]⟩ := by subst h1; subst h2; rfl
theorem vs6 {a b c e : LV} {x x' y y' : Int} (h1 : x = x') (h2 : y = y') : [a, b, c, e, LV.v (V1.one (At.int .u64 x)), LV.v (V1.one (At.int .i64 y))] = [a, b, c, e, LV.v (V1.one (At.int .u64 x')), LV.v (V1.one (At.int .i64 y'))] := by subst h1; subst h2; rfl

theorem rvsLf (A d : Int) (n : Bool) (r b V : Int) (k : Nat) (hk : k < 64) (hW0 : 0 ≤ wLo A) (hW1 : wLo A < 18446744073709551616) (hb : wLo A / pow2 k % 2 = b) (r0 : 0 ≤ r) (r1 : r < 9223372036854775808) (d0 : 0 < d) (d1 : d ≤ 9223372036854775808) (hc : 2 * r + b < d) :
    To Try.prog 71 (c1 (c1 (c2 rvBd))) (rvSA A n d r V (k : Int)) .normal (rvSA A n d (2 * r + b) V ((k : Int) - 1)) := by
  have b0 : 0 ≤ b := by rw [← hb]; exact Int.emod_nonneg _ (by decide)
  have b1 : b ≤ 1 := by have := Int.emod_lt_of_pos (wLo A / pow2 k) (show (0 : Int) < 2 by decide); rw [hb] at this; exact Int.le_of_lt_add_one this
  have hJ : wr IntKind.u64 (w64 (Int.ofNat ((u64 (k : Int)).toNat.land (u64 63).toNat))) = (k : Int) := by rw [idx63 _ (by omega) (by omega)]; omega
  have hP : pow2 (min ((k : Int)).toNat IntKind.u64.bits) = pow2 k := by rw [pshift (by omega) (by omega)]; congr 1
  have hp := pow2_pos k
  have hI : wr IntKind.i64 ((k : Int) - 1) = (k : Int) - 1 := w64s (by omega) (by omega)
  have hL : Int.ofNat ((u64 (wLo A / pow2 k)).toNat.land (u64 1).toNat) = b := by
    have g1 : 0 ≤ wLo A / pow2 k := Int.ediv_nonneg hW0 (Int.le_of_lt hp)
    have g2 : wLo A / pow2 k ≤ wLo A := Int.ediv_le_self _ hW0
    rw [land1 _ g1 (Int.lt_of_le_of_lt g2 hW1), hb]
  have hO := lorBit (r := r) (b := b) r0 r1 b0 b1
  refine To.run (z := Zl) soundR3 (slots := [1, 2, 4, 5, 6, 7]) (blks := [0, 1, 2]) (vs := [.v (.one (.int .u64 d)), .v (.one (.ptr 0 0)), .v (.one (.ptr 1 0)), .v (.one (.ptr 2 0)), .v (.one (.int .u64 (2 * r + b))), .v (.one (.int .i64 ((k : Int) - 1)))]) (bs := [wideB A n, zeroB, wideB V n]) (nbB := 3) (fun dead => rvLf dead (wHi A) (wLo A) n d r (wHi V) (wLo V) (k : Int)) rfl ?_ ?_ ?_ (canB_ok (by rfl)) (Nat.le_refl _)
  · exact vs6 (by rw [hJ, hP, hL, hO]) hI
  · rfl
  · rw [hJ, hP, hL, hO]
    simp only [all_tt, all_ff, decide_eq_true_eq, decide_eq_false_iff_not]
    repeat' apply And.intro
    all_goals first | exact ae_nil | omega
theorem rvsLt (A d : Int) (n : Bool) (r b V V2 : Int) (k : Nat) (hk : k < 64) (hW0 : 0 ≤ wLo A) (hW1 : wLo A < 18446744073709551616) (hb : wLo A / pow2 k % 2 = b) (r0 : 0 ≤ r) (r1 : r < 9223372036854775808) (d0 : 0 < d) (d1 : d ≤ 9223372036854775808) (hc : ¬ 2 * r + b < d) (h1 : Int.ofNat ((u64 (wLo V)).toNat.lor (u64 (wr IntKind.u64 (1 * pow2 k))).toNat) = wLo V2) (h2 : wHi V = wHi V2) :
    To Try.prog 71 (c1 (c1 (c2 rvBd))) (rvSA A n d r V (k : Int)) .normal (rvSA A n d (2 * r + b - d) V2 ((k : Int) - 1)) := by
  revert h1 h2
  have b0 : 0 ≤ b := by rw [← hb]; exact Int.emod_nonneg _ (by decide)
  have b1 : b ≤ 1 := by have := Int.emod_lt_of_pos (wLo A / pow2 k) (show (0 : Int) < 2 by decide); rw [hb] at this; exact Int.le_of_lt_add_one this
  have hJ : wr IntKind.u64 (w64 (Int.ofNat ((u64 (k : Int)).toNat.land (u64 63).toNat))) = (k : Int) := by rw [idx63 _ (by omega) (by omega)]; omega
  have hP : pow2 (min ((k : Int)).toNat IntKind.u64.bits) = pow2 k := by rw [pshift (by omega) (by omega)]; congr 1
  have hp := pow2_pos k
  have hI : wr IntKind.i64 ((k : Int) - 1) = (k : Int) - 1 := w64s (by omega) (by omega)
  have hL : Int.ofNat ((u64 (wLo A / pow2 k)).toNat.land (u64 1).toNat) = b := by
    have g1 : 0 ≤ wLo A / pow2 k := Int.ediv_nonneg hW0 (Int.le_of_lt hp)
    have g2 : wLo A / pow2 k ≤ wLo A := Int.ediv_le_self _ hW0
    rw [land1 _ g1 (Int.lt_of_le_of_lt g2 hW1), hb]
  have hO := lorBit (r := r) (b := b) r0 r1 b0 b1
  have hU : wr IntKind.u64 (2 * r + b - d) = 2 * r + b - d := u64_in (by omega) (by omega)
  intro h1 h2
  refine To.run (z := Zl) soundR3 (slots := [1, 2, 4, 5, 6, 7]) (blks := [0, 1, 2]) (vs := [.v (.one (.int .u64 d)), .v (.one (.ptr 0 0)), .v (.one (.ptr 1 0)), .v (.one (.ptr 2 0)), .v (.one (.int .u64 (2 * r + b - d))), .v (.one (.int .i64 ((k : Int) - 1)))]) (bs := [wideB A n, zeroB, wideB V2 n]) (nbB := 3) (fun dead => rvLt dead (wHi A) (wLo A) n d r (wHi V) (wLo V) (k : Int)) rfl ?_ ?_ ?_ (canB_ok (by rfl)) (Nat.le_refl _)
  · exact vs6 (by rw [hJ, hP, hL, hO, hU]) hI
  · rw [hJ, hP, h1, h2]; rfl
  · clear h1 h2
    rw [hJ, hP, hL, hO]
    simp only [all_tt, all_ff, decide_eq_true_eq, decide_eq_false_iff_not]
    repeat' apply And.intro
    all_goals first | exact ae_nil | omega
theorem rvsHf (A d : Int) (n : Bool) (r b V : Int) (j : Nat) (hk : j < 64) (hW0 : 0 ≤ wHi A) (hW1 : wHi A < 18446744073709551616) (hb : wHi A / pow2 j % 2 = b) (r0 : 0 ≤ r) (r1 : r < 9223372036854775808) (d0 : 0 < d) (d1 : d ≤ 9223372036854775808) (hc : 2 * r + b < d) :
    To Try.prog 71 (c1 (c1 (c2 rvBd))) (rvSA A n d r V ((j + 64 : Nat) : Int)) .normal (rvSA A n d (2 * r + b) V (((j + 64 : Nat) : Int) - 1)) := by
  have b0 : 0 ≤ b := by rw [← hb]; exact Int.emod_nonneg _ (by decide)
  have b1 : b ≤ 1 := by have := Int.emod_lt_of_pos (wHi A / pow2 j) (show (0 : Int) < 2 by decide); rw [hb] at this; exact Int.le_of_lt_add_one this
  have hJ : wr IntKind.u64 (w64 (Int.ofNat ((u64 ((j + 64 : Nat) : Int)).toNat.land (u64 63).toNat))) = (j : Int) := by rw [idx63 _ (by omega) (by omega)]; omega
  have hP : pow2 (min ((j : Int)).toNat IntKind.u64.bits) = pow2 j := by rw [pshift (by omega) (by omega)]; congr 1
  have hp := pow2_pos j
  have hI : wr IntKind.i64 (((j + 64 : Nat) : Int) - 1) = ((j + 64 : Nat) : Int) - 1 := w64s (by omega) (by omega)
  have hL : Int.ofNat ((u64 (wHi A / pow2 j)).toNat.land (u64 1).toNat) = b := by
    have g1 : 0 ≤ wHi A / pow2 j := Int.ediv_nonneg hW0 (Int.le_of_lt hp)
    have g2 : wHi A / pow2 j ≤ wHi A := Int.ediv_le_self _ hW0
    rw [land1 _ g1 (Int.lt_of_le_of_lt g2 hW1), hb]
  have hO := lorBit (r := r) (b := b) r0 r1 b0 b1
  refine To.run (z := Zl) soundR3 (slots := [1, 2, 4, 5, 6, 7]) (blks := [0, 1, 2]) (vs := [.v (.one (.int .u64 d)), .v (.one (.ptr 0 0)), .v (.one (.ptr 1 0)), .v (.one (.ptr 2 0)), .v (.one (.int .u64 (2 * r + b))), .v (.one (.int .i64 (((j + 64 : Nat) : Int) - 1)))]) (bs := [wideB A n, zeroB, wideB V n]) (nbB := 3) (fun dead => rvHf dead (wHi A) (wLo A) n d r (wHi V) (wLo V) ((j + 64 : Nat) : Int)) rfl ?_ ?_ ?_ (canB_ok (by rfl)) (Nat.le_refl _)
  · exact vs6 (by rw [hJ, hP, hL, hO]) hI
  · rfl
  · rw [hJ, hP, hL, hO]
    simp only [all_tt, all_ff, decide_eq_true_eq, decide_eq_false_iff_not]
    repeat' apply And.intro
    all_goals first | exact ae_nil | omega
theorem rvsHt (A d : Int) (n : Bool) (r b V V2 : Int) (j : Nat) (hk : j < 64) (hW0 : 0 ≤ wHi A) (hW1 : wHi A < 18446744073709551616) (hb : wHi A / pow2 j % 2 = b) (r0 : 0 ≤ r) (r1 : r < 9223372036854775808) (d0 : 0 < d) (d1 : d ≤ 9223372036854775808) (hc : ¬ 2 * r + b < d) (h1 : Int.ofNat ((u64 (wHi V)).toNat.lor (u64 (wr IntKind.u64 (1 * pow2 j))).toNat) = wHi V2) (h2 : wLo V = wLo V2) :
    To Try.prog 71 (c1 (c1 (c2 rvBd))) (rvSA A n d r V ((j + 64 : Nat) : Int)) .normal (rvSA A n d (2 * r + b - d) V2 (((j + 64 : Nat) : Int) - 1)) := by
  revert h1 h2
  have b0 : 0 ≤ b := by rw [← hb]; exact Int.emod_nonneg _ (by decide)
  have b1 : b ≤ 1 := by have := Int.emod_lt_of_pos (wHi A / pow2 j) (show (0 : Int) < 2 by decide); rw [hb] at this; exact Int.le_of_lt_add_one this
  have hJ : wr IntKind.u64 (w64 (Int.ofNat ((u64 ((j + 64 : Nat) : Int)).toNat.land (u64 63).toNat))) = (j : Int) := by rw [idx63 _ (by omega) (by omega)]; omega
  have hP : pow2 (min ((j : Int)).toNat IntKind.u64.bits) = pow2 j := by rw [pshift (by omega) (by omega)]; congr 1
  have hp := pow2_pos j
  have hI : wr IntKind.i64 (((j + 64 : Nat) : Int) - 1) = ((j + 64 : Nat) : Int) - 1 := w64s (by omega) (by omega)
  have hL : Int.ofNat ((u64 (wHi A / pow2 j)).toNat.land (u64 1).toNat) = b := by
    have g1 : 0 ≤ wHi A / pow2 j := Int.ediv_nonneg hW0 (Int.le_of_lt hp)
    have g2 : wHi A / pow2 j ≤ wHi A := Int.ediv_le_self _ hW0
    rw [land1 _ g1 (Int.lt_of_le_of_lt g2 hW1), hb]
  have hO := lorBit (r := r) (b := b) r0 r1 b0 b1
  have hU : wr IntKind.u64 (2 * r + b - d) = 2 * r + b - d := u64_in (by omega) (by omega)
  intro h1 h2
  refine To.run (z := Zl) soundR3 (slots := [1, 2, 4, 5, 6, 7]) (blks := [0, 1, 2]) (vs := [.v (.one (.int .u64 d)), .v (.one (.ptr 0 0)), .v (.one (.ptr 1 0)), .v (.one (.ptr 2 0)), .v (.one (.int .u64 (2 * r + b - d))), .v (.one (.int .i64 (((j + 64 : Nat) : Int) - 1)))]) (bs := [wideB A n, zeroB, wideB V2 n]) (nbB := 3) (fun dead => rvHt dead (wHi A) (wLo A) n d r (wHi V) (wLo V) ((j + 64 : Nat) : Int)) rfl ?_ ?_ ?_ (canB_ok (by rfl)) (Nat.le_refl _)
  · exact vs6 (by rw [hJ, hP, hL, hO, hU]) hI
  · rw [hJ, hP, h1, h2]; rfl
  · clear h1 h2
    rw [hJ, hP, hL, hO]
    simp only [all_tt, all_ff, decide_eq_true_eq, decide_eq_false_iff_not]
    repeat' apply And.intro
    all_goals first | exact ae_nil | omega

theorem rv_eV (Q P : Int) : Q * (2 * P) + P = (2 * Q + 1) * P := by grind
theorem rv_eW (Q P : Int) : Q * (2 * P) = 2 * Q * P := by grind
theorem rvStep (A d : Int) (n : Bool) (hA0 : 0 ≤ A) (hA1 : A < 340282366920938463463374607431768211456) (hd0 : 0 < d) (hd1 : d ≤ 9223372036854775808) (k : Nat) (hk : k < 128) :
    To Try.prog 71 (c1 (c1 (c2 rvBd))) (rvSA A n d (A / pow2 (k + 1) % d) (A / pow2 (k + 1) / d * pow2 (k + 1)) (k : Int)) .normal (rvSA A n d (A / pow2 k % d) (A / pow2 k / d * pow2 k) ((k : Int) - 1)) := by
  obtain ⟨s1, s2, s3, s4, s5⟩ := rv_step A d k hd0
  have r0 := Int.emod_nonneg (A / pow2 (k + 1)) (Int.ne_of_gt hd0)
  have r1 : A / pow2 (k + 1) % d < 9223372036854775808 := Int.lt_of_lt_of_le (Int.emod_lt_of_pos (A / pow2 (k + 1)) hd0) hd1
  have a1n : 0 ≤ A / pow2 (k + 1) := Int.ediv_nonneg hA0 (Int.le_of_lt (pow2_pos _))
  have a0n : 0 ≤ A / pow2 k := Int.ediv_nonneg hA0 (Int.le_of_lt (pow2_pos _))
  have Qn : 0 ≤ A / pow2 (k + 1) / d := Int.ediv_nonneg a1n (Int.le_of_lt hd0)
  have hle : A / pow2 k / d * pow2 k ≤ A := by
    have h1 : A / pow2 k / d ≤ A / pow2 k := Int.ediv_le_self _ a0n
    have h2 : A / pow2 k / d * pow2 k ≤ A / pow2 k * pow2 k := Int.mul_le_mul_of_nonneg_right h1 (Int.le_of_lt (pow2_pos _))
    exact Int.le_trans h2 (Int.ediv_mul_le A (Int.ne_of_gt (pow2_pos k)))
  obtain ⟨x0, x1⟩ := wHi_in A hA0 hA1
  obtain ⟨y0, y1⟩ := wLo_in A
  have es := pow2_succ k
  by_cases hc : 2 * (A / pow2 (k + 1) % d) + A / pow2 k % 2 < d
  · obtain ⟨q1, q2⟩ := s4 hc
    have eV : A / pow2 (k + 1) / d * pow2 (k + 1) = A / pow2 k / d * pow2 k := by rw [q1, es]; exact rv_eW _ _
    rw [q2, ← eV]
    rcases Nat.lt_or_ge k 64 with hlo | hhi
    · exact rvsLf A d n _ _ _ k hlo y0 y1 (bit_lo A k hlo) r0 r1 hd0 hd1 hc
    · obtain ⟨j, rfl⟩ : ∃ j : Nat, k = j + 64 := ⟨k - 64, (Nat.sub_add_cancel hhi).symm⟩
      exact rvsHf A d n _ _ _ j (Nat.lt_of_add_lt_add_right (n := 64) hk) x0 x1 (bit_hi A j) r0 r1 hd0 hd1 hc
  · obtain ⟨q1, q2⟩ := s5 hc
    have eV : A / pow2 (k + 1) / d * pow2 (k + 1) + pow2 k = A / pow2 k / d * pow2 k := by
      rw [q1, es]; exact rv_eV _ _
    rw [q2, ← eV]
    rcases Nat.lt_or_ge k 64 with hlo | hhi
    · obtain ⟨o1, o2⟩ := orb_lo (A / pow2 (k + 1) / d) k hlo Qn
      exact rvsLt A d n _ _ _ _ k hlo y0 y1 (bit_lo A k hlo) r0 r1 hd0 hd1 hc o1 o2
    · obtain ⟨j, rfl⟩ : ∃ j : Nat, k = j + 64 := ⟨k - 64, (Nat.sub_add_cancel hhi).symm⟩
      obtain ⟨o1, o2⟩ := orb_hi (A / pow2 (j + 64 + 1) / d) j Qn (by rw [eV]; exact Int.lt_of_le_of_lt hle hA1)
      exact rvsHt A d n _ _ _ _ j (Nat.lt_of_add_lt_add_right (n := 64) hk) x0 x1 (bit_hi A j) r0 r1 hd0 hd1 hc o1 o2

theorem rvEnd (A d : Int) (n : Bool) (r V : Int) : To Try.prog 71 (c1 (c1 (c2 rvBd))) (rvSA A n d r V (-1)) (.exit 0) (rvSB A n d r V) :=
  To.exec (z := Zl) soundR3 (slots := [1, 2, 4, 5, 6]) (blks := [0, 1, 2]) (vs := [_, _, _, _, _]) (bs := [_, _, _]) (nbB := 3) (fun dead => rvE dead (wHi A) (wLo A) n d r (wHi V) (wLo V) (-1)) (by simp) (canB_ok (by rfl)) (Nat.le_refl _)

theorem rvRd (A d : Int) (n : Bool) (hA0 : 0 ≤ A) (hA1 : A < 340282366920938463463374607431768211456) (hd0 : 0 < d) (hd1 : d ≤ 9223372036854775808) : ∀ (k : Nat), k ≤ 128 →
    Rd Try.prog 71 (c1 (c1 (c2 rvBd))) (k + 1) (rvSA A n d (A / pow2 k % d) (A / pow2 k / d * pow2 k) ((k : Int) - 1)) (.exit 0) (rvSB A n d (A % d) (A / d))
  | 0, _ => by
    have e : pow2 0 = 1 := rfl
    rw [e, Int.ediv_one, Int.mul_one]
    exact Rd.last (by simp) (rvEnd A d n _ _)
  | k + 1, hk => by
    have hs := rvStep A d n hA0 hA1 hd0 hd1 k (by omega)
    have e : (((k + 1 : Nat) : Int) - 1) = (k : Int) := by omega
    rw [e]
    exact Rd.next hs (rvRd A d n hA0 hA1 hd0 hd1 k (by omega))

def rdivS : List LV → Option (LV × List (Bool × Bool))
  | [.v (.agg [.int .u64 x, .int .u64 y, .bool n]), .v (.one (.int .u64 d))] => some (.v (RB (quoR (wVal x y) d) n), [(isU x, true), (isU y, true), (decide (0 < d), true), (decide (d ≤ 9223372036854775808), true)])
  | _ => none
theorem sumRdiv : SumOK Try.prog 93 (pureSum rdivS) := by
  refine pureSum_ok fun args v cs hF hc w => ?_
  unfold rdivS at hF
  split at hF
  · rename_i x y n d
    refine callOK_of (own_of soundR3 Try.func93 (by kernel_rfl)) ?_
    cases hF
    simp only [all_tt, isU_iff, decide_eq_true_eq] at hc
    obtain ⟨⟨x0, x1⟩, ⟨y0, y1⟩, hd0, hd1, -⟩ := hc
    have hA0 : 0 ≤ wVal x y := by unfold wVal; omega
    have hA1 : wVal x y < 340282366920938463463374607431768211456 := by unfold wVal; omega
    have hhx : wHi (wVal x y) = x := hi_mk x y y0 y1
    have hhy : wLo (wVal x y) = y := lo_mk x y y0 y1
    have hrd := rvRd (wVal x y) d n hA0 hA1 hd0 hd1 128 (Nat.le_refl _)
    generalize hA : wVal x y = A at *
    have r0 := Int.emod_nonneg A (show d ≠ 0 by omega)
    have r1 := Int.emod_lt_of_pos A hd0
    have hz : A / pow2 128 = 0 := Int.ediv_eq_zero_of_lt hA0 hA1
    rw [hz, Int.zero_emod, Int.zero_ediv, Int.zero_mul] at hrd
    refine calls_pure (c := bodyF Try.prog 93) (e := .ret) (B := ⟨[(4, .v (.one (.ptr 1 0)))], [(1, wideB (quoR A d) n)], 3⟩) Try.func93 (by kernel_rfl) (Nat.le_of_ble_eq_true (by kernel_rfl)) (Nat.le_of_ble_eq_true (by kernel_rfl)) rfl ?_ (.inr rfl) (fun dead => by kernel_rfl) rfl w
    refine To.spineR (z := Zl) soundR3 (k := 3) (slots := [1, 2, 4, 5, 6]) (blks := [0, 1, 2]) (vs := [_, _, _, _, _]) (bs := [wideB A n, zeroB, wideB 0 n]) (nbB := 3) (by kernel_rfl) (fun dead => rvA dead x y n d) rfl rfl (by unfold wideB; rw [hhx, hhy]; rfl) ae_nil (canB_ok (by rfl)) (Nat.zero_le _) ?_
    refine To.seq (by kernel_rfl) (To.seq (by kernel_rfl) (To.exec (z := Zl) soundR3 (slots := [1, 2, 4, 5, 6, 7]) (blks := [0, 1, 2]) (vs := [_, _, _, _, _, _]) (bs := [wideB A n, zeroB, wideB 0 n]) (nbB := 3) (fun dead => rvB dead (wHi A) (wLo A) n d 0 (wHi 0) (wLo 0)) ae_nil (canB_ok (by rfl)) (Nat.le_refl _))
      (To.block (id := 0) (by kernel_rfl) (To.loop (by kernel_rfl) hrd) (.inl rfl))) ?_
    have hwr : wr IntKind.u64 (d - A % d) = d - A % d := u64_in (by omega) (by omega)
    have q0 : 0 ≤ A / d := Int.ediv_nonneg hA0 (by omega)
    have q1 : A / d ≤ A := Int.ediv_le_self _ hA0
    have hw1 := wHi_in (A / d) q0 (by omega)
    have hw2 := wLo_in (A / d)
    unfold quoR
    by_cases hr : A % d ≥ d - A % d
    · rw [if_pos hr]
      have hdd : d = 1 ∨ 1 < d := by omega
      have hq : A / d + 1 < 340282366920938463463374607431768211456 := by
        rcases hdd with rfl | hdd
        · exfalso; omega
        · have : A / d ≤ A / 2 := by
            have h2 := Int.ediv_mul_le A (show d ≠ 0 by omega)
            have h3 : A / d * 2 ≤ A / d * d := Int.mul_le_mul_of_nonneg_left (by omega) q0
            omega
          omega
      refine To.run (z := Zl) soundR3 (slots := [4]) (blks := [1]) (vs := [_]) (bs := [wideB (A / d + 1) n]) (nbB := 3) (fun dead => rvFt dead (wHi A) (wLo A) n d (A % d) (wHi (A / d)) (wLo (A / d))) rfl rfl ?_ ?_ (canB_ok (by rfl)) (Nat.le_refl _)
      · have e1 : wVal 0 1 = 1 := rfl
        have eM : addM (A / d) n 1 n = A / d + 1 := by unfold addM; rw [if_pos rfl]
        have eN : addN (A / d) n 1 n = n := by unfold addN; rw [if_pos rfl]
        rw [wVal_mk, e1, eM, eN]; rfl
      · have e1 : wVal 0 1 = 1 := rfl
        rw [wVal_mk, e1, hwr]
        simp only [all_tt, isU_iff, decide_eq_true_eq]
        exact ⟨hw1, hw2, by omega, by omega, by omega, hr, ae_nil⟩
    · rw [if_neg hr]
      refine To.run (z := Zl) soundR3 (slots := [4]) (blks := [1]) (vs := [_]) (bs := [wideB (A / d) n]) (nbB := 3) (fun dead => rvFf dead (wHi A) (wLo A) n d (A % d) (wHi (A / d)) (wLo (A / d))) rfl rfl rfl ?_ (canB_ok (by rfl)) (Nat.le_refl _)
      rw [hwr]
      simp only [all_ff, decide_eq_false_iff_not]
      exact ⟨hr, ae_nil⟩
  · cases hF
end Go.Proofs.Ytmcbgolflbkndaa

/- The second reference's root, bit by bit: its walk, and what it comes to. -/
namespace Go.Proofs.Ytmcbgolflbkndaa
open Go.Lr
set_option linter.unusedVariables false
set_option linter.unusedSimpArgs false

def rrSA (A : Int) (n : Bool) (r i : Int) : Kst := ⟨[(1, .v (.one (.ptr 0 0))), (2, .v (.one (.ptr 1 0))), (3, .v (.one (.int .u64 r))), (4, .v (.one (.int .i64 i)))], [(0, wideB A n), (1, zeroB)], 2⟩
def rrSB (A : Int) (n : Bool) (r : Int) : Kst := ⟨[(1, .v (.one (.ptr 0 0))), (2, .v (.one (.ptr 1 0))), (3, .v (.one (.int .u64 r)))], [(0, wideB A n), (1, zeroB)], 2⟩
theorem vs4 {a c : LV} {x x' y y' : Int} (h1 : x = x') (h2 : y = y') : [a, c, LV.v (V1.one (At.int .u64 x)), LV.v (V1.one (At.int .i64 y))] = [a, c, LV.v (V1.one (At.int .u64 x')), LV.v (V1.one (At.int .i64 y'))] := by subst h1; subst h2; rfl

/-- The root so far: a multiple of a power, not too great, the next one is. -/
def RInv (A : Int) (k : Nat) (r : Int) : Prop := ∃ q, 0 ≤ q ∧ r = q * pow2 k ∧ r * r ≤ A ∧ A < (r + pow2 k) * (r + pow2 k)
theorem RInv.lt {A : Int} {k : Nat} {r : Int} (h : RInv A k r) (hA : A ≤ 85070591730234615865843651857942052864) : 0 ≤ r ∧ r ≤ 9223372036854775808 := by
  obtain ⟨q, h0, rfl, h2, -⟩ := h
  have hp := pow2_pos k
  have hn : 0 ≤ q * pow2 k := Int.mul_nonneg h0 (Int.le_of_lt hp)
  refine ⟨hn, ?_⟩
  rcases Int.lt_or_le 9223372036854775808 (q * pow2 k) with h | h
  · exfalso
    have : 9223372036854775809 * 9223372036854775809 ≤ q * pow2 k * (q * pow2 k) := Int.mul_le_mul (by omega) (by omega) (by omega) hn
    omega
  · exact h
theorem sq_add (r P : Int) : (r + P) * (r + P) = r * r + 2 * (r * P) + P * P := by grind
theorem RInv.yes {A : Int} {k : Nat} {r : Int} (h : RInv A (k + 1) r) (hx : (r + pow2 k) * (r + pow2 k) ≤ A) : RInv A k (r + pow2 k) := by
  obtain ⟨q, h0, rfl, h2, h3⟩ := h
  rw [pow2_succ] at hx h2 h3 ⊢
  refine ⟨2 * q + 1, by omega, by grind, hx, ?_⟩
  have e : q * (2 * pow2 k) + pow2 k + pow2 k = q * (2 * pow2 k) + 2 * pow2 k := by omega
  rw [e]; exact h3
theorem RInv.no {A : Int} {k : Nat} {r : Int} (h : RInv A (k + 1) r) (hx : ¬ (r + pow2 k) * (r + pow2 k) ≤ A) : RInv A k r := by
  obtain ⟨q, h0, rfl, h2, h3⟩ := h
  rw [pow2_succ] at hx h2 h3 ⊢
  exact ⟨2 * q, by omega, by grind, h2, Int.lt_of_not_ge hx⟩
theorem RInv.start {A : Int} (h0 : 0 ≤ A) (h1 : A < 340282366920938463463374607431768211456) : RInv A 64 0 := by
  refine ⟨0, Int.le_refl 0, (Int.zero_mul _).symm, h0, ?_⟩
  have hp : (0 + pow2 64) * (0 + pow2 64) = 340282366920938463463374607431768211456 := by decide
  rw [hp]; exact h1
theorem RInv.bit {A : Int} {k : Nat} {r : Int} (h : RInv A (k + 1) r) (hA : A ≤ 85070591730234615865843651857942052864) (hk : k < 64) :
    Int.ofNat ((u64 r).toNat.lor (u64 (wr IntKind.u64 (1 * pow2 k))).toNat) = r + pow2 k ∧ 0 ≤ r + pow2 k ∧ r + pow2 k < 18446744073709551616 := by
  obtain ⟨b0, b1⟩ := h.lt hA
  obtain ⟨q, h0, rfl, h2, h3⟩ := h
  have hp := pow2_pos k
  have hp2 : pow2 k ≤ 9223372036854775808 := pow2_le (n := 63) _ (by omega) (by decide)
  have hs : q * pow2 (k + 1) + pow2 k < 18446744073709551616 := by
    rcases Nat.lt_or_ge k 63 with h | h
    · have : pow2 k ≤ 4611686018427387904 := pow2_le (n := 62) _ (by omega) (by decide)
      omega
    · have hk63 : k = 63 := by omega
      subst hk63
      have e : pow2 (63 + 1) = 18446744073709551616 := by decide
      rw [e] at b1 ⊢
      have : q = 0 := by omega
      subst this; omega
  have e := (ior_add q (pow2 k) (k + 1) h0 (Int.le_of_lt hp) (by rw [pow2_succ]; omega) hs).1
  rw [wr_u, Int.one_mul, u64_in (x := pow2 k) (by omega) (by omega), e]
  exact ⟨rfl, by omega, hs⟩

theorem rrIdx (k : Nat) (hk : k < 64) : pow2 (min (wr IntKind.u64 (k : Int)).toNat IntKind.u64.bits) = pow2 k ∧ decide (wr IntKind.u64 (k : Int) < 0) = false ∧ wr IntKind.i64 ((k : Int) - 1) = (k : Int) - 1 := by
  have e : wr IntKind.u64 (k : Int) = (k : Int) := u64_in (by omega) (by omega)
  rw [e]
  refine ⟨?_, by simp, w64s (by omega) (by omega)⟩
  rw [pshift (by omega) (by omega)]; congr 1

theorem sq_lt {x : Int} (h0 : 0 ≤ x) (h1 : x < 18446744073709551616) : 0 ≤ x * x ∧ x * x < 340282366920938463463374607431768211456 := by
  refine ⟨Int.mul_nonneg h0 h0, ?_⟩
  have : x * x ≤ 18446744073709551615 * 18446744073709551615 := Int.mul_le_mul (by omega) (by omega) h0 (by omega)
  omega
/-- The root's floor. -/
def isq (A : Int) : Nat → Int → Int
  | 0, r => r
  | k + 1, r => isq A k (if (r + pow2 k) * (r + pow2 k) ≤ A then r + pow2 k else r)
theorem isq_inv {A : Int} : ∀ {k : Nat} {r : Int}, RInv A k r → RInv A 0 (isq A k r)
  | 0, r, h => h
  | k + 1, r, h => by
    simp only [isq]
    by_cases hc : (r + pow2 k) * (r + pow2 k) ≤ A
    · rw [if_pos hc]; exact isq_inv (h.yes hc)
    · rw [if_neg hc]; exact isq_inv (h.no hc)
theorem isq_spec {A : Int} (h0 : 0 ≤ A) (h1 : A < 340282366920938463463374607431768211456) : 0 ≤ isq A 64 0 ∧ isq A 64 0 * isq A 64 0 ≤ A ∧ A ≤ isq A 64 0 * isq A 64 0 + 2 * isq A 64 0 := by
  obtain ⟨q, a0, a1, a2, a3⟩ := isq_inv (RInv.start h0 h1)
  generalize isq A 64 0 = r at *
  have e : pow2 0 = 1 := rfl
  rw [e] at a1 a3
  rw [sq_add] at a3
  exact ⟨by omega, a2, by omega⟩
theorem root_isq {A : Int} (h0 : 0 ≤ A) (h1 : A < 340282366920938463463374607431768211456) : rootW A = if A - isq A 64 0 * isq A 64 0 > isq A 64 0 then isq A 64 0 + 1 else isq A 64 0 := by
  obtain ⟨s0, s1, s2⟩ := isq_spec h0 h1
  generalize isq A 64 0 = r at *
  by_cases h : A - r * r > r
  · rw [if_pos h]
    have e : (r + 1) * (r + 1) = r * r + 2 * r + 1 := by grind
    refine Int.le_antisymm (root_le h0 h1 (by omega) (by omega)) (root_ge h0 h1 (.inr (by omega)))
  · rw [if_neg h]
    refine Int.le_antisymm (root_le h0 h1 s0 (by omega)) (root_ge h0 h1 ?_)
    by_cases hr : r = 0
    · exact .inl (by omega)
    · right; omega

def rrootS : List LV → Option (LV × List (Bool × Bool))
  | [.v (.agg [.int .u64 x, .int .u64 y, .bool n])] => some (.v (RB (rootW (wVal x y)) false), [(isU x, true), (isU y, true), (n, false), (decide (wVal x y ≤ 85070591730234615865843651857942052864), true)])
  | _ => none
theorem rr_sub {A r : Int} (h : ¬ A < r * r) : addM A false (r * r) true = A - r * r := by
  unfold addM
  rw [if_neg (by simp), if_neg h]
theorem rr_parts {v : Int} (h0 : 0 ≤ v) (h1 : v ≤ 18446744073709551615) : wHi v = 0 ∧ wLo v = v := by
  constructor
  · unfold wHi; omega
  · unfold wLo; omega
end Go.Proofs.Ytmcbgolflbkndaa

/- The second reference's product by 30: its run (printed), and what it comes to. -/
namespace Go.Proofs.Ytmcbgolflbkndaa
open Go.Lr
set_option linter.unusedVariables false
set_option linter.unusedSimpArgs false

def rmul30T (a b : Int) (hb : Bool) : Option (LV × Bool × List (Bool × Bool)) := some (LV.v (V1.one (At.int IntKind.i64 (satV (sgn (!decide (satV a < 0) == decide (satV b < 0)) (wVal (wHi ((wVal (wHi (absV (satV a) * absV (satV b))) (wLo (absV (satV a) * absV (satV b))) + 536870912) / 1073741824)) (wLo ((wVal (wHi (absV (satV a) * absV (satV b))) (wLo (absV (satV a) * absV (satV b))) + 536870912) / 1073741824))))))), (hb || satH a || satH b || satH (sgn (!decide (satV a < 0) == decide (satV b < 0)) (wVal (wHi ((wVal (wHi (absV (satV a) * absV (satV b))) (wLo (absV (satV a) * absV (satV b))) + 536870912) / 1073741824)) (wLo ((wVal (wHi (absV (satV a) * absV (satV b))) (wLo (absV (satV a) * absV (satV b))) + 536870912) / 1073741824))))), [(isU (wHi ((wVal (wHi (absV (satV a) * absV (satV b))) (wLo (absV (satV a) * absV (satV b))) + 536870912) / 1073741824)), true), (isU (wLo ((wVal (wHi (absV (satV a) * absV (satV b))) (wLo (absV (satV a) * absV (satV b))) + 536870912) / 1073741824)), true), (isU (wHi (absV (satV a) * absV (satV b))), true), (isU (wLo (absV (satV a) * absV (satV b))), true), (decide (wVal (wHi (absV (satV a) * absV (satV b))) (wLo (absV (satV a) * absV (satV b))) + 536870912 < 340282366920938463463374607431768211456), true), (isI (satV a), true), (isI (satV b), true)])
def rmul30F : List LV → Bool → Option (LV × Bool × List (Bool × Bool))
  | [.v (.one (.int .i64 a)), .v (.one (.int .i64 b)), .v (.one (.int .i64 30))], hb => rmul30T a b hb
  | _, _ => none
/-- A size and a sign stand for a number. -/
def SM (m : Int) (n : Bool) (v : Int) : Prop := 0 ≤ m ∧ sgn n m = v
theorem SM.abs {m v : Int} {n : Bool} (h : SM m n v) : m = absV v := by
  obtain ⟨h0, h1⟩ := h
  unfold sgn at h1; unfold absV
  cases n <;> simp at h1 <;> split <;> omega
theorem SM.rnd {m v : Int} {n : Bool} (h : SM m n v) : sgn n ((m + 536870912) / 1073741824) = rndV v 30 := by
  have ha := h.abs
  obtain ⟨h0, h1⟩ := h
  have hh : halfP 30 = 536870912 := rfl
  have hp : pow2 30 = 1073741824 := rfl
  unfold rndV
  rw [hh, hp, ← ha]
  unfold sgn at h1 ⊢
  by_cases hm : m = 0
  · subst hm
    have : (0 + 536870912 : Int) / 1073741824 = 0 := by decide
    rw [this]; simp
  · cases n with
    | true =>
      simp only [if_true] at h1 ⊢
      have : v < 0 := by omega
      simp [this]
    | false =>
      simp only [Bool.false_eq_true, if_false] at h1 ⊢
      have : ¬ v < 0 := by omega
      simp [this]
theorem SM.mul (a b : Int) : SM (absV a * absV b) (!(decide (a < 0) == decide (b < 0))) (a * b) := ⟨Int.mul_nonneg (absV_nn a) (absV_nn b), sgn_mul a b⟩
theorem SM.add {m p v w : Int} {n q : Bool} (h : SM m n v) (k : SM p q w) : SM (addM m n p q) (addN m n p q) (v + w) := by
  obtain ⟨h0, h1⟩ := h
  obtain ⟨k0, k1⟩ := k
  unfold SM addM addN sgn at *
  by_cases e : n = q
  · subst e
    cases n <;> simp at h1 k1 ⊢ <;> omega
  · rw [if_neg e, if_neg e]
    by_cases l : m < p
    · rw [if_pos l, if_pos l]
      cases n <;> cases q <;> simp at h1 k1 e ⊢ <;> omega
    · rw [if_neg l, if_neg l]
      cases n <;> cases q <;> simp at h1 k1 e ⊢ <;> omega
theorem SM.lt {m v : Int} {n : Bool} (h : SM m n v) {k : Int} (h0 : -k ≤ v) (h1 : v ≤ k) : m ≤ k := by
  rw [h.abs]; unfold absV; split <;> omega
theorem isI_satV (a : Int) : isI (satV a) = true := isI_sat a
theorem rnd30 (v : Int) : satV (rndV v 30) = rndS v 30 ∧ satH (rndV v 30) = rndH v 30 := by
  unfold rndS rndH
  rw [if_neg (by decide), if_neg (by decide)]
  exact ⟨rfl, by simp⟩
theorem abs_sat_lt (a b : Int) : absV (satV a) * absV (satV b) ≤ 1329227995784915872903807060280344576 ∧ 0 ≤ absV (satV a) * absV (satV b) := by
  have h1 := sat_bd a
  have h2 := sat_bd b
  have a1 : absV (satV a) ≤ 1152921504606846976 := by unfold absV; split <;> omega
  have a2 : absV (satV b) ≤ 1152921504606846976 := by unfold absV; split <;> omega
  have h3 : absV (satV a) * absV (satV b) ≤ 1152921504606846976 * 1152921504606846976 := Int.mul_le_mul a1 a2 (absV_nn _) (by decide)
  exact ⟨by omega, Int.mul_nonneg (absV_nn _) (absV_nn _)⟩
theorem isU_hl {v : Int} (h0 : 0 ≤ v) (h1 : v < 340282366920938463463374607431768211456) : isU (wHi v) = true ∧ isU (wLo v) = true := ⟨isU_iff.2 (wHi_in v h0 h1), isU_iff.2 (wLo_in v)⟩

/-- The product by 30. -/
def rmul30S : List LV → Bool → Option (LV × Bool × List (Bool × Bool))
  | [.v (.one (.int .i64 a)), .v (.one (.int .i64 b)), .v (.one (.int .i64 30))], hb => some (I (mulV a b 30), hb || mulH a b 30, [])
  | _, _ => none
noncomputable def R4S : FuncId → Option SumK := more R3S 93 (pureSum rdivS)
theorem soundR4 : Sound Try.prog R4S := soundR3.more sumRdiv
end Go.Proofs.Ytmcbgolflbkndaa

/- The second reference's quotients and root of numbers: runs (printed), and what they come to. -/
namespace Go.Proofs.Ytmcbgolflbkndaa
open Go.Lr
set_option linter.unusedVariables false
set_option linter.unusedSimpArgs false

def rm30T (a b : Int) (hb : Bool) : Option (LV × Bool × List (Bool × Bool)) := some (LV.v (V1.one (At.int IntKind.i64 (mulV a b 30))), (hb || mulH a b 30), [])
def rm30F : List LV → Bool → Option (LV × Bool × List (Bool × Bool))
  | [.v (.one (.int .i64 a)), .v (.one (.int .i64 b))], hb => rm30T a b hb
  | _, _ => none
def rdiv30T (a b : Int) (hb : Bool) : Option (LV × Bool × List (Bool × Bool)) := 
  bif (satV b == 0) then 
    bif (decide (satV a > 0)) then some (LV.v (V1.one (At.int IntKind.i64 1152921504606846976)), (true), [])
    else 
      bif (decide (satV a < 0)) then some (LV.v (V1.one (At.int IntKind.i64 (-1152921504606846976))), (true), [])
      else some (LV.v (V1.one (At.int IntKind.i64 0)), (true), [])
  else some (LV.v (V1.one (At.int IntKind.i64 (satV (sgn (!decide (satV a < 0) == decide (satV b < 0)) (wVal (wHi (quoR (wVal (absV (satV a) / pow2 (min (wr IntKind.u64 (wr IntKind.i64 (64 - 30))).toNat IntKind.u64.bits)) (wr IntKind.u64 (absV (satV a) * pow2 (min (wr IntKind.u64 30).toNat IntKind.u64.bits)))) (absV (satV b)))) (wLo (quoR (wVal (absV (satV a) / pow2 (min (wr IntKind.u64 (wr IntKind.i64 (64 - 30))).toNat IntKind.u64.bits)) (wr IntKind.u64 (absV (satV a) * pow2 (min (wr IntKind.u64 30).toNat IntKind.u64.bits)))) (absV (satV b))))))))), (hb || satH a || satH b || satH (sgn (!decide (satV a < 0) == decide (satV b < 0)) (wVal (wHi (quoR (wVal (absV (satV a) / pow2 (min (wr IntKind.u64 (wr IntKind.i64 (64 - 30))).toNat IntKind.u64.bits)) (wr IntKind.u64 (absV (satV a) * pow2 (min (wr IntKind.u64 30).toNat IntKind.u64.bits)))) (absV (satV b)))) (wLo (quoR (wVal (absV (satV a) / pow2 (min (wr IntKind.u64 (wr IntKind.i64 (64 - 30))).toNat IntKind.u64.bits)) (wr IntKind.u64 (absV (satV a) * pow2 (min (wr IntKind.u64 30).toNat IntKind.u64.bits)))) (absV (satV b))))))), [(isU (wHi (quoR (wVal (absV (satV a) / pow2 (min (wr IntKind.u64 (wr IntKind.i64 (64 - 30))).toNat IntKind.u64.bits)) (wr IntKind.u64 (absV (satV a) * pow2 (min (wr IntKind.u64 30).toNat IntKind.u64.bits)))) (absV (satV b)))), true), (isU (wLo (quoR (wVal (absV (satV a) / pow2 (min (wr IntKind.u64 (wr IntKind.i64 (64 - 30))).toNat IntKind.u64.bits)) (wr IntKind.u64 (absV (satV a) * pow2 (min (wr IntKind.u64 30).toNat IntKind.u64.bits)))) (absV (satV b)))), true), (isU (absV (satV a) / pow2 (min (wr IntKind.u64 (wr IntKind.i64 (64 - 30))).toNat IntKind.u64.bits)), true), (isU (wr IntKind.u64 (absV (satV a) * pow2 (min (wr IntKind.u64 30).toNat IntKind.u64.bits))), true), (decide (0 < absV (satV b)), true), (decide (absV (satV b) ≤ 9223372036854775808), true), (isI (satV b), true), (decide (wr IntKind.u64 30 < 0), false), (decide (wr IntKind.u64 (wr IntKind.i64 (64 - 30)) < 0), false), (isI (satV a), true)])
def rdiv30F : List LV → Bool → Option (LV × Bool × List (Bool × Bool))
  | [.v (.one (.int .i64 a)), .v (.one (.int .i64 b)), .v (.one (.int .i64 30))], hb => rdiv30T a b hb
  | _, _ => none
theorem rmdR1 (a b d : Int) (hb : Bool) (ty : TypeId) : (runF Try.prog R4S Zl 2000 45 [A0, .v (.one (.int .i64 a)), .v (.one (.int .i64 b)), .v (.one (.int .i64 d))] [(0, flag ty hb)] 1 [some true, some true, some true, some true, some true, some true]).map acc3 = some (LV.v (V1.one (At.int IntKind.i64 0)), some { ty := ty, fr := (0, 0), es := 0, cells := [At.bool true] }, [(wLo (absV (satV a) * absV (satV b)) == 0, true), (wHi (absV (satV a) * absV (satV b)) == 0, true), (wHi (absV (satV a) * absV (satV b)) == 0, true), (wHi (absV (satV a) * absV (satV b)) == 0, true), (wHi (absV (satV a) * absV (satV b)) == 0, true), (satV d == 0, true), (isI (satV a), true), (isI (satV b), true)]) := by kernel_rfl
theorem rmdR2 (a b d : Int) (hb : Bool) (ty : TypeId) : (runF Try.prog R4S Zl 2000 45 [A0, .v (.one (.int .i64 a)), .v (.one (.int .i64 b)), .v (.one (.int .i64 d))] [(0, flag ty hb)] 1 [some true, some true, some true, some true, some true, some false, some true]).map acc3 = some (LV.v (V1.one (At.int IntKind.i64 (-1152921504606846976))), some { ty := ty, fr := (0, 0), es := 0, cells := [At.bool true] }, [(!decide (satV a < 0) == decide (satV b < 0), true), (wLo (absV (satV a) * absV (satV b)) == 0, false), (wHi (absV (satV a) * absV (satV b)) == 0, true), (wHi (absV (satV a) * absV (satV b)) == 0, true), (wHi (absV (satV a) * absV (satV b)) == 0, true), (wHi (absV (satV a) * absV (satV b)) == 0, true), (satV d == 0, true), (isI (satV a), true), (isI (satV b), true)]) := by kernel_rfl
theorem rmdR3 (a b d : Int) (hb : Bool) (ty : TypeId) : (runF Try.prog R4S Zl 2000 45 [A0, .v (.one (.int .i64 a)), .v (.one (.int .i64 b)), .v (.one (.int .i64 d))] [(0, flag ty hb)] 1 [some true, some true, some true, some true, some true, some false, some false]).map acc3 = some (LV.v (V1.one (At.int IntKind.i64 1152921504606846976)), some { ty := ty, fr := (0, 0), es := 0, cells := [At.bool true] }, [(!decide (satV a < 0) == decide (satV b < 0), false), (wLo (absV (satV a) * absV (satV b)) == 0, false), (wHi (absV (satV a) * absV (satV b)) == 0, true), (wHi (absV (satV a) * absV (satV b)) == 0, true), (wHi (absV (satV a) * absV (satV b)) == 0, true), (wHi (absV (satV a) * absV (satV b)) == 0, true), (satV d == 0, true), (isI (satV a), true), (isI (satV b), true)]) := by kernel_rfl
theorem rmdR4 (a b d : Int) (hb : Bool) (ty : TypeId) : (runF Try.prog R4S Zl 2000 45 [A0, .v (.one (.int .i64 a)), .v (.one (.int .i64 b)), .v (.one (.int .i64 d))] [(0, flag ty hb)] 1 [some true, some false, some false, some false, some false, none, some true]).map acc3 = some (LV.v (V1.one (At.int IntKind.i64 (-1152921504606846976))), some { ty := ty, fr := (0, 0), es := 0, cells := [At.bool true] }, [(!decide (satV a < 0) == decide (satV b < 0), true), (wHi (absV (satV a) * absV (satV b)) == 0, false), (wHi (absV (satV a) * absV (satV b)) == 0, false), (wHi (absV (satV a) * absV (satV b)) == 0, false), (wHi (absV (satV a) * absV (satV b)) == 0, false), (satV d == 0, true), (isI (satV a), true), (isI (satV b), true)]) := by kernel_rfl
theorem rmdR5 (a b d : Int) (hb : Bool) (ty : TypeId) : (runF Try.prog R4S Zl 2000 45 [A0, .v (.one (.int .i64 a)), .v (.one (.int .i64 b)), .v (.one (.int .i64 d))] [(0, flag ty hb)] 1 [some true, some false, some false, some false, some false, none, some false]).map acc3 = some (LV.v (V1.one (At.int IntKind.i64 1152921504606846976)), some { ty := ty, fr := (0, 0), es := 0, cells := [At.bool true] }, [(!decide (satV a < 0) == decide (satV b < 0), false), (wHi (absV (satV a) * absV (satV b)) == 0, false), (wHi (absV (satV a) * absV (satV b)) == 0, false), (wHi (absV (satV a) * absV (satV b)) == 0, false), (wHi (absV (satV a) * absV (satV b)) == 0, false), (satV d == 0, true), (isI (satV a), true), (isI (satV b), true)]) := by kernel_rfl
theorem rmdR6 (a b d : Int) (hb : Bool) (ty : TypeId) : (runF Try.prog R4S Zl 2000 45 [A0, .v (.one (.int .i64 a)), .v (.one (.int .i64 b)), .v (.one (.int .i64 d))] [(0, flag ty hb)] 1 [some false]).map acc3 = some (LV.v (V1.one (At.int IntKind.i64 (satV (sgn (!(!decide (satV a < 0) == decide (satV b < 0)) == decide (satV d < 0)) (wVal (wHi (quoR (wVal (wHi (absV (satV a) * absV (satV b))) (wLo (absV (satV a) * absV (satV b)))) (absV (satV d)))) (wLo (quoR (wVal (wHi (absV (satV a) * absV (satV b))) (wLo (absV (satV a) * absV (satV b)))) (absV (satV d))))))))), some { ty := ty, fr := (0, 0), es := 0, cells := [At.bool (hb || satH a || satH b || satH d || satH (sgn (!(!decide (satV a < 0) == decide (satV b < 0)) == decide (satV d < 0)) (wVal (wHi (quoR (wVal (wHi (absV (satV a) * absV (satV b))) (wLo (absV (satV a) * absV (satV b)))) (absV (satV d)))) (wLo (quoR (wVal (wHi (absV (satV a) * absV (satV b))) (wLo (absV (satV a) * absV (satV b)))) (absV (satV d)))))))] }, [(isU (wHi (quoR (wVal (wHi (absV (satV a) * absV (satV b))) (wLo (absV (satV a) * absV (satV b)))) (absV (satV d)))), true), (isU (wLo (quoR (wVal (wHi (absV (satV a) * absV (satV b))) (wLo (absV (satV a) * absV (satV b)))) (absV (satV d)))), true), (isU (wHi (absV (satV a) * absV (satV b))), true), (isU (wLo (absV (satV a) * absV (satV b))), true), (decide (0 < absV (satV d)), true), (decide (absV (satV d) ≤ 9223372036854775808), true), (isI (satV d), true), (satV d == 0, false), (isI (satV a), true), (isI (satV b), true)]) := by kernel_rfl
def rmdT (a b d : Int) (hb : Bool) : Option (LV × Bool × List (Bool × Bool)) := 
  bif (satV d == 0) then 
    bif (wHi (absV (satV a) * absV (satV b)) == 0) then 
      bif (wLo (absV (satV a) * absV (satV b)) == 0) then some (LV.v (V1.one (At.int IntKind.i64 0)), (true), [(isI (satV a), true), (isI (satV b), true)])
      else 
        bif (!decide (satV a < 0) == decide (satV b < 0)) then some (LV.v (V1.one (At.int IntKind.i64 (-1152921504606846976))), (true), [(isI (satV a), true), (isI (satV b), true)])
        else some (LV.v (V1.one (At.int IntKind.i64 1152921504606846976)), (true), [(isI (satV a), true), (isI (satV b), true)])
    else 
      bif (!decide (satV a < 0) == decide (satV b < 0)) then some (LV.v (V1.one (At.int IntKind.i64 (-1152921504606846976))), (true), [(isI (satV a), true), (isI (satV b), true)])
      else some (LV.v (V1.one (At.int IntKind.i64 1152921504606846976)), (true), [(isI (satV a), true), (isI (satV b), true)])
  else some (LV.v (V1.one (At.int IntKind.i64 (satV (sgn (!(!decide (satV a < 0) == decide (satV b < 0)) == decide (satV d < 0)) (wVal (wHi (quoR (wVal (wHi (absV (satV a) * absV (satV b))) (wLo (absV (satV a) * absV (satV b)))) (absV (satV d)))) (wLo (quoR (wVal (wHi (absV (satV a) * absV (satV b))) (wLo (absV (satV a) * absV (satV b)))) (absV (satV d))))))))), (hb || satH a || satH b || satH d || satH (sgn (!(!decide (satV a < 0) == decide (satV b < 0)) == decide (satV d < 0)) (wVal (wHi (quoR (wVal (wHi (absV (satV a) * absV (satV b))) (wLo (absV (satV a) * absV (satV b)))) (absV (satV d)))) (wLo (quoR (wVal (wHi (absV (satV a) * absV (satV b))) (wLo (absV (satV a) * absV (satV b)))) (absV (satV d))))))), [(isU (wHi (quoR (wVal (wHi (absV (satV a) * absV (satV b))) (wLo (absV (satV a) * absV (satV b)))) (absV (satV d)))), true), (isU (wLo (quoR (wVal (wHi (absV (satV a) * absV (satV b))) (wLo (absV (satV a) * absV (satV b)))) (absV (satV d)))), true), (isU (wHi (absV (satV a) * absV (satV b))), true), (isU (wLo (absV (satV a) * absV (satV b))), true), (decide (0 < absV (satV d)), true), (decide (absV (satV d) ≤ 9223372036854775808), true), (isI (satV d), true), (isI (satV a), true), (isI (satV b), true)])
def rmdF : List LV → Bool → Option (LV × Bool × List (Bool × Bool))
  | [.v (.one (.int .i64 a)), .v (.one (.int .i64 b)), .v (.one (.int .i64 d))], hb => rmdT a b d hb
  | _, _ => none
theorem sumrmd (ty : TypeId) : SumOK Try.prog 45 (accSum ty rmdF) := by
  refine accSum_run (z := Zl) soundR4 (own_of soundR4 Try.func45 (by kernel_rfl)) fun args hb v h' cs hF hc => ?_
  unfold rmdF at hF
  split at hF
  · rename_i a b d
    unfold rmdT at hF
    rcases bool_cases (satV d == 0) with h0 | h0
    · rw [cond_t h0] at hF
      rcases bool_cases (wHi (absV (satV a) * absV (satV b)) == 0) with h1 | h1
      · rw [cond_t h1] at hF
        rcases bool_cases (wLo (absV (satV a) * absV (satV b)) == 0) with h2 | h2
        · rw [cond_t h2] at hF
          cases hF
          exact ⟨rfl, 2000, [some true, some true, some true, some true, some true, some true], _, rmdR1 a b d hb ty, ae_cons (h2) (ae_cons (h1) (ae_cons (h1) (ae_cons (h1) (ae_cons (h1) (ae_cons (h0) (ae_cons (hd_of (hc)) (ae_cons (hd_of (tl_of (hc))) (ae_nil))))))))⟩
        · rw [cond_f h2] at hF
          rcases bool_cases (!decide (satV a < 0) == decide (satV b < 0)) with h3 | h3
          · rw [cond_t h3] at hF
            cases hF
            exact ⟨rfl, 2000, [some true, some true, some true, some true, some true, some false, some true], _, rmdR2 a b d hb ty, ae_cons (h3) (ae_cons (h2) (ae_cons (h1) (ae_cons (h1) (ae_cons (h1) (ae_cons (h1) (ae_cons (h0) (ae_cons (hd_of (hc)) (ae_cons (hd_of (tl_of (hc))) (ae_nil)))))))))⟩
          · rw [cond_f h3] at hF
            cases hF
            exact ⟨rfl, 2000, [some true, some true, some true, some true, some true, some false, some false], _, rmdR3 a b d hb ty, ae_cons (h3) (ae_cons (h2) (ae_cons (h1) (ae_cons (h1) (ae_cons (h1) (ae_cons (h1) (ae_cons (h0) (ae_cons (hd_of (hc)) (ae_cons (hd_of (tl_of (hc))) (ae_nil)))))))))⟩
      · rw [cond_f h1] at hF
        rcases bool_cases (!decide (satV a < 0) == decide (satV b < 0)) with h2 | h2
        · rw [cond_t h2] at hF
          cases hF
          exact ⟨rfl, 2000, [some true, some false, some false, some false, some false, none, some true], _, rmdR4 a b d hb ty, ae_cons (h2) (ae_cons (h1) (ae_cons (h1) (ae_cons (h1) (ae_cons (h1) (ae_cons (h0) (ae_cons (hd_of (hc)) (ae_cons (hd_of (tl_of (hc))) (ae_nil))))))))⟩
        · rw [cond_f h2] at hF
          cases hF
          exact ⟨rfl, 2000, [some true, some false, some false, some false, some false, none, some false], _, rmdR5 a b d hb ty, ae_cons (h2) (ae_cons (h1) (ae_cons (h1) (ae_cons (h1) (ae_cons (h1) (ae_cons (h0) (ae_cons (hd_of (hc)) (ae_cons (hd_of (tl_of (hc))) (ae_nil))))))))⟩
    · rw [cond_f h0] at hF
      cases hF
      exact ⟨rfl, 2000, [some false], _, rmdR6 a b d hb ty, ae_cons (hd_of (hc)) (ae_cons (hd_of (tl_of (hc))) (ae_cons (hd_of (tl_of (tl_of (hc)))) (ae_cons (hd_of (tl_of (tl_of (tl_of (hc))))) (ae_cons (hd_of (tl_of (tl_of (tl_of (tl_of (hc)))))) (ae_cons (hd_of (tl_of (tl_of (tl_of (tl_of (tl_of (hc))))))) (ae_cons (hd_of (tl_of (tl_of (tl_of (tl_of (tl_of (tl_of (hc)))))))) (ae_cons (h0) (ae_cons (hd_of (tl_of (tl_of (tl_of (tl_of (tl_of (tl_of (tl_of (hc))))))))) (ae_cons (hd_of (tl_of (tl_of (tl_of (tl_of (tl_of (tl_of (tl_of (tl_of (hc)))))))))) (ae_nil))))))))))⟩
  · cases hF

def rsqrtT (a : Int) (hb : Bool) : Option (LV × Bool × List (Bool × Bool)) := 
  bif (decide (satV a < 0)) then some (LV.v (V1.one (At.int IntKind.i64 0)), (true), [])
  else some (LV.v (V1.one (At.int IntKind.i64 (satV (sgn false (wVal (wHi (rootW (wVal (absV (satV a) / pow2 (min (Int.toNat 34) IntKind.u64.bits)) (wr IntKind.u64 (absV (satV a) * pow2 (min (Int.toNat 30) IntKind.u64.bits)))))) (wLo (rootW (wVal (absV (satV a) / pow2 (min (Int.toNat 34) IntKind.u64.bits)) (wr IntKind.u64 (absV (satV a) * pow2 (min (Int.toNat 30) IntKind.u64.bits))))))))))), (hb || satH a || satH (sgn false (wVal (wHi (rootW (wVal (absV (satV a) / pow2 (min (Int.toNat 34) IntKind.u64.bits)) (wr IntKind.u64 (absV (satV a) * pow2 (min (Int.toNat 30) IntKind.u64.bits)))))) (wLo (rootW (wVal (absV (satV a) / pow2 (min (Int.toNat 34) IntKind.u64.bits)) (wr IntKind.u64 (absV (satV a) * pow2 (min (Int.toNat 30) IntKind.u64.bits))))))))), [(isU (wHi (rootW (wVal (absV (satV a) / pow2 (min (Int.toNat 34) IntKind.u64.bits)) (wr IntKind.u64 (absV (satV a) * pow2 (min (Int.toNat 30) IntKind.u64.bits)))))), true), (isU (wLo (rootW (wVal (absV (satV a) / pow2 (min (Int.toNat 34) IntKind.u64.bits)) (wr IntKind.u64 (absV (satV a) * pow2 (min (Int.toNat 30) IntKind.u64.bits)))))), true), (isU (absV (satV a) / pow2 (min (Int.toNat 34) IntKind.u64.bits)), true), (isU (wr IntKind.u64 (absV (satV a) * pow2 (min (Int.toNat 30) IntKind.u64.bits))), true), (false, false), (decide (wVal (absV (satV a) / pow2 (min (Int.toNat 34) IntKind.u64.bits)) (wr IntKind.u64 (absV (satV a) * pow2 (min (Int.toNat 30) IntKind.u64.bits))) ≤ 85070591730234615865843651857942052864), true), (isI (satV a), true)])
def rsqrtF : List LV → Bool → Option (LV × Bool × List (Bool × Bool))
  | [.v (.one (.int .i64 a))], hb => rsqrtT a hb
  | _, _ => none
theorem quoR_zero {d : Int} (h : 0 < d) : quoR 0 d = 0 := by
  unfold quoR
  rw [Int.zero_emod, Int.zero_ediv, if_neg (by omega)]
theorem quoR_bd {a b : Int} (ha : 0 ≤ a) (hb : 0 < b) : 0 ≤ quoR a b ∧ quoR a b ≤ a + 1 := by
  have h1 := Int.ediv_nonneg ha (Int.le_of_lt hb)
  have h2 := Int.ediv_le_self b ha
  unfold quoR
  split <;> omega
theorem sgn_zero (n : Bool) : sgn n 0 = 0 := by unfold sgn; cases n <;> rfl
theorem div_sm {w d m : Int} {n : Bool} (hd : d ≠ 0) (h : SM m n w) : sgn (!(n == decide (d < 0))) (quoR m (absV d)) = divV w d := by
  have ha := h.abs
  obtain ⟨h0, h1⟩ := h
  have hd0 : 0 < absV d := by unfold absV; split <;> omega
  unfold divV
  rw [← ha]
  by_cases hm : m = 0
  · subst hm
    rw [quoR_zero hd0, sgn_zero, sgn_zero]
  · congr 3
    unfold sgn at h1
    cases n with
    | true => simp only [if_true] at h1; symm; rw [decide_eq_true_eq]; omega
    | false => simp only [Bool.false_eq_true, if_false] at h1; symm; rw [decide_eq_false_iff_not]; omega
theorem sm_shl (a : Int) : SM (absV a * 1073741824) (decide (a < 0)) (a * 1073741824) := by
  refine ⟨by have := absV_nn a; omega, ?_⟩
  unfold sgn absV
  by_cases h : a < 0 <;> simp [h] <;> omega
theorem absV_sat2 (a : Int) : 0 ≤ absV (satV a) ∧ absV (satV a) ≤ 1152921504606846976 := by
  have := sat_bd a
  unfold absV; split <;> omega
theorem shl30 {x : Int} (h0 : 0 ≤ x) (h1 : x ≤ 1152921504606846976) : wVal (x / 17179869184) (wr IntKind.u64 (x * 1073741824)) = x * 1073741824 ∧ isU (x / 17179869184) = true ∧ isU (wr IntKind.u64 (x * 1073741824)) = true := by
  rw [isU_iff, isU_iff, wr_u]
  unfold wVal u64
  omega
theorem absV_pos' {d : Int} (h : d ≠ 0) : 0 < absV d := by unfold absV; split <;> omega

def rdiv30S : List LV → Bool → Option (LV × Bool × List (Bool × Bool))
  | [.v (.one (.int .i64 a)), .v (.one (.int .i64 b)), .v (.one (.int .i64 30))], hb => some (I (divPV a b 30), hb || divPH a b 30, [])
  | _, _ => none
theorem divP30 (a b : Int) : divPV a b 30 = byV (satV a * 1073741824) (satV b) ∧ divPH a b 30 = (satH a || (satH b || byH (satV a * 1073741824) (satV b))) := by
  have e : pow2 (Int.toNat 30) = 1073741824 := rfl
  unfold divPV divPH
  rw [if_neg (by decide), if_neg (by decide), e]
  exact ⟨rfl, by simp⟩
theorem accE {x x' : Int} {b b' : Bool} {l : List (Bool × Bool)} (h1 : x = x') (h2 : b = b') : some (LV.v (V1.one (At.int .i64 x)), b, l) = some (LV.v (V1.one (At.int .i64 x')), b', l) := by subst h1; subst h2; rfl
theorem mul_zero_iff {a b : Int} : absV a * absV b = 0 ↔ a * b = 0 := by
  rw [← absV_mul]; unfold absV; split <;> omega
theorem hl_zero {v : Int} (h0 : 0 ≤ v) : (wHi v = 0 ∧ wLo v = 0) ↔ v = 0 := by
  unfold wHi wLo; omega
theorem sumRmd (ty : TypeId) : SumOK Try.prog 45 (accSum ty fmdS) := by
  refine (sumrmd ty).acc_re fun args hb v h' cs hF hc => ?_
  unfold fmdS at hF
  split at hF
  · rename_i a b d
    cases hF
    show ∃ cs', rmdT a b d hb = _ ∧ _
    unfold rmdT mulDivV mulDivH byV byH I
    obtain ⟨g1, g0⟩ := abs_sat_lt a b
    have hsm := SM.mul (satV a) (satV b)
    by_cases hz : satV d = 0
    · have hbt : (satV d == 0) = true := by simpa using hz
      rw [cond_t hbt, if_pos hz, hbt]
      have hcs : ∀ c ∈ [(isI (satV a), true), (isI (satV b), true)], c.1 = c.2 := by rw [isI_satV, isI_satV]; simp
      have hzz := hl_zero g0
      have hmz := mul_zero_iff (a := satV a) (b := satV b)
      obtain ⟨-, hsg⟩ := hsm
      unfold sgn at hsg
      generalize absV (satV a) * absV (satV b) = p at *
      generalize satV a * satV b = w at *
      generalize (!(decide (satV a < 0) == decide (satV b < 0))) = n at *
      by_cases h1 : wHi p = 0
      · rw [cond_t (by simpa using h1)]
        by_cases h2 : wLo p = 0
        · have hw := hmz.1 (hzz.1 ⟨h1, h2⟩)
          rw [cond_t (by simpa using h2), if_pos hw]
          exact ⟨_, accE rfl (by simp), hcs⟩
        · have hw : w ≠ 0 := fun e => h2 (hzz.2 (hmz.2 e)).2
          rw [cond_f (by simpa using h2), if_neg hw]
          cases n with
          | true => simp only [if_true] at hsg; rw [cond_true, if_pos (by omega)]; exact ⟨_, accE rfl (by simp), hcs⟩
          | false => simp only [Bool.false_eq_true, if_false] at hsg; rw [cond_false, if_neg (by omega)]; exact ⟨_, accE rfl (by simp), hcs⟩
      · have hw : w ≠ 0 := fun e => h1 (hzz.2 (hmz.2 e)).1
        rw [cond_f (by simpa using h1), if_neg hw]
        cases n with
        | true => simp only [if_true] at hsg; rw [cond_true, if_pos (by omega)]; exact ⟨_, accE rfl (by simp), hcs⟩
        | false => simp only [Bool.false_eq_true, if_false] at hsg; rw [cond_false, if_neg (by omega)]; exact ⟨_, accE rfl (by simp), hcs⟩
    · have hbf : (satV d == 0) = false := by simpa using hz
      rw [cond_f hbf, if_neg hz, hbf]
      obtain ⟨d0, d1⟩ := absV_sat2 d
      have hd0 := absV_pos' hz
      have hq := quoR_bd (a := absV (satV a) * absV (satV b)) (b := absV (satV d)) g0 hd0
      have hdv := div_sm hz hsm
      obtain ⟨u1, u2⟩ := isU_hl (v := quoR (absV (satV a) * absV (satV b)) (absV (satV d))) hq.1 (by omega)
      obtain ⟨u3, u4⟩ := isU_hl (v := absV (satV a) * absV (satV b)) g0 (by omega)
      refine ⟨_, accE ?_ ?_, ?_⟩
      · rw [wVal_mk, wVal_mk, hdv]
      · rw [wVal_mk, wVal_mk, hdv]; simp only [Bool.or_assoc, Bool.false_or]
      · have e1 : decide (0 < absV (satV d)) = true := decide_eq_true hd0
        have e2 : decide (absV (satV d) ≤ 9223372036854775808) = true := decide_eq_true (by omega)
        rw [wVal_mk, u1, u2, u3, u4, e1, e2, isI_satV, isI_satV, isI_satV]
        simp
  · cases hF

theorem shl30' {x : Int} (h0 : 0 ≤ x) (h1 : x ≤ 1152921504606846976) : wVal (x / pow2 (min (Int.toNat 34) IntKind.u64.bits)) (wr IntKind.u64 (x * pow2 (min (Int.toNat 30) IntKind.u64.bits))) = x * 1073741824 ∧
    isU (x / pow2 (min (Int.toNat 34) IntKind.u64.bits)) = true ∧ isU (wr IntKind.u64 (x * pow2 (min (Int.toNat 30) IntKind.u64.bits))) = true := by
  have p1 : pow2 (min (Int.toNat 34) IntKind.u64.bits) = 17179869184 := by decide
  have p2 : pow2 (min (Int.toNat 30) IntKind.u64.bits) = 1073741824 := by decide
  rw [p1, p2]
  exact shl30 h0 h1
noncomputable def R5S : FuncId → Option SumK := more R4S 45 (accAny fmdS)
theorem soundR5 : Sound Try.prog R5S := soundR4.more (accAny_ok sumRmd)
end Go.Proofs.Ytmcbgolflbkndaa

/- The second reference's sums of products and its lengths: their walks, and what they come to. -/
namespace Go.Proofs.Ytmcbgolflbkndaa
open Go.Lr
set_option linter.unusedVariables false
set_option linter.unusedSimpArgs false
set_option maxRecDepth 100000

theorem SM.bds {M p D e : Int} {n q : Bool} {i m : Nat} (h : SM M n D) (hm : m ≤ 100) (hi : i < m) (b0 : -((i : Int) * 1329227995784915872903807060280344576) ≤ D ∧ D ≤ i * 1329227995784915872903807060280344576) (h0 : 0 ≤ p) (hp : p ≤ 1329227995784915872903807060280344576) :
    0 ≤ M ∧ M < 340282366920938463463374607431768211456 ∧ M + p < 340282366920938463463374607431768211456 := by
  have h1 := h.1
  have h2 := h.lt (k := (i : Int) * 1329227995784915872903807060280344576) b0.1 b0.2
  omega
theorem SM.bdn {M D : Int} {n : Bool} {k j : Nat} (h : SM M n D) (b0 : -(((min 100 k : Nat) : Int) * 1329227995784915872903807060280344576) ≤ D ∧ D ≤ ((min 100 k : Nat) : Int) * 1329227995784915872903807060280344576) :
    0 ≤ M ∧ M + 536870912 < 340282366920938463463374607431768211456 := by
  have h1 := h.1
  have h2 := h.lt (k := ((min 100 k : Nat) : Int) * 1329227995784915872903807060280344576) b0.1 b0.2
  omega

def rdAtwo (tf : TypeId) (k1 k2 : Blk) (oa na ca ob nn cb : Nat) (h : Bool) (M : Int) (N : Bool) (i : Int) : Kst := ⟨[(0, A0), (1, I 30), (2, SLX 1 oa na ca), (3, SLX 2 ob nn cb), (9, P3), (10, I i)], [(0, flag tf h), (1, k1), (2, k2), (3, wideB M N)], 4⟩
def rdBtwo (tf : TypeId) (k1 k2 : Blk) (h : Bool) (M : Int) (N : Bool) : Kst := ⟨[(0, A0), (1, I 30), (9, P3)], [(0, flag tf h), (1, k1), (2, k2), (3, wideB M N)], 4⟩
def rdAone (tf : TypeId) (k1 : Blk) (oa na ca ob nn cb : Nat) (h : Bool) (M : Int) (N : Bool) (i : Int) : Kst := ⟨[(0, A0), (1, I 30), (2, SLX 1 oa na ca), (3, SLX 1 ob nn cb), (9, P3), (10, I i)], [(0, flag tf h), (1, k1), (3, wideB M N)], 4⟩
def rdBone (tf : TypeId) (k1 : Blk) (h : Bool) (M : Int) (N : Bool) : Kst := ⟨[(0, A0), (1, I 30), (9, P3)], [(0, flag tf h), (1, k1), (3, wideB M N)], 4⟩
/-- Sums of products of two lists of one length, by 30. -/
def rdotS : List AV → Bool → Option (LV × Bool × List (Bool × Bool))
  | [.pl (.v (.one (.int .i64 30))), .ints xs, .ints ys], hb => match Nat.beq xs.length ys.length, Nat.ble 1 xs.length, Nat.ble xs.length 100 with
    | true, true, true => some (I (dotV 30 xs ys), hb || dotH 30 xs ys, [])
    | _, _, _ => none
  | _, _ => none
theorem rdotS_inv {avs : List AV} {hb : Bool} {r : LV × Bool × List (Bool × Bool)} (h : rdotS avs hb = some r) : ∃ xs ys, avs = [.pl (.v (.one (.int .i64 30))), .ints xs, .ints ys] ∧ xs.length = ys.length ∧ 1 ≤ xs.length ∧ xs.length ≤ 100 ∧ r = (I (dotV 30 xs ys), hb || dotH 30 xs ys, []) := by
  unfold rdotS at h
  split at h
  · rename_i xs ys
    split at h
    · rename_i h1 h2 h3
      cases h
      exact ⟨xs, ys, rfl, Nat.eq_of_beq_eq_true h1, Nat.le_of_ble_eq_true h2, Nat.le_of_ble_eq_true h3, rfl⟩
    · cases h
  · cases h
def rhA (tf : TypeId) (k : Blk) (o n c : Nat) (h : Bool) (M : Int) (i : Int) : Kst := ⟨[(0, A0), (1, SLX 1 o n c), (5, P2), (6, I i)], [(0, flag tf h), (1, k), (2, wideB M false)], 3⟩
def rhB (tf : TypeId) (k : Blk) (h : Bool) (M : Int) : Kst := ⟨[(0, A0), (5, P2)], [(0, flag tf h), (1, k), (2, wideB M false)], 3⟩
theorem rh_sq (a : Int) : absV a * absV a = a * a := by
  rw [← absV_mul, absV_pos]
  rcases Int.le_total 0 a with h | h
  · exact Int.mul_nonneg h h
  · exact Int.mul_nonneg_of_nonpos_of_nonpos h h
/-- Lengths of at least one number, at most 64. -/
def rhypS : List AV → Bool → Option (LV × Bool × List (Bool × Bool))
  | [.ints xs], hb => match Nat.ble 1 xs.length, Nat.ble xs.length 64 with
    | true, true => some (I (hypV xs), hb || hypH xs, [])
    | _, _ => none
  | _, _ => none
theorem rhypS_inv {avs : List AV} {hb : Bool} {r : LV × Bool × List (Bool × Bool)} (h : rhypS avs hb = some r) : ∃ xs, avs = [.ints xs] ∧ 1 ≤ xs.length ∧ xs.length ≤ 64 ∧ r = (I (hypV xs), hb || hypH xs, []) := by
  unfold rhypS at h
  split at h
  · rename_i xs
    split at h
    · rename_i h2 h3
      cases h
      exact ⟨xs, rfl, Nat.le_of_ble_eq_true h2, Nat.le_of_ble_eq_true h3, rfl⟩
    · cases h
  · cases h
end Go.Proofs.Ytmcbgolflbkndaa

/- The second reference, all of it. -/
namespace Go.Proofs.Ytmcbgolflbkndaa
open Go.Lr
set_option linter.unusedVariables false

noncomputable def R6S : FuncId → Option SumK := R5S
theorem soundR6 : Sound Try.prog R6S := soundR5
def rd30S : List LV → Bool → Option (LV × Bool × List (Bool × Bool))
  | [.v (.one (.int .i64 a)), .v (.one (.int .i64 b))], hb => some (I (divPV a b 30), hb || divPH a b 30, [])
  | _, _ => none
noncomputable def R7S : FuncId → Option SumK := R6S
theorem soundR7 : Sound Try.prog R7S := soundR6
end Go.Proofs.Ytmcbgolflbkndaa

/- The law folder's awake, of chapter 20: its run. -/
namespace Go.Proofs.Ytmcbgolflbkndaa
open Go.Lr
noncomputable def S27 : FuncId → Option SumK := S24
theorem sound27 : Sound Try.prog S27 := sound24
end Go.Proofs.Ytmcbgolflbkndaa

/- A height's samples, read by the program and looked at by the document's answer: runs (printed), and what they come to. -/
namespace Go.Proofs.Ytmcbgolflbkndaa
open Go.Lr
set_option linter.unusedVariables false
set_option linter.unusedSimpArgs false

theorem r16varR1 (a b : Int) : (runF Try.prog R7S Zl 2000 46 [.v (.one (.int .i64 a)), .v (.one (.int .i64 b))] [] 0 []).map (fun r => (r.1, r.2.2.2)) = some (LV.v (V1.one (At.int IntKind.i64 (clampV (mulDivV (wr IntKind.i64 (a * a)) 17592186044416 b) 1 72057594037927936))), []) := by kernel_rfl
def r16varT (a b : Int) : Option (LV × List (Bool × Bool)) := some (LV.v (V1.one (At.int IntKind.i64 (clampV (mulDivV (wr IntKind.i64 (a * a)) 17592186044416 b) 1 72057594037927936))), [])
def r16varF : List LV → Option (LV × List (Bool × Bool))
  | [.v (.one (.int .i64 a)), .v (.one (.int .i64 b))] => r16varT a b
  | _ => none
theorem sumr16var : SumOK Try.prog 46 (pureSum r16varF) := by
  refine pureSum_run (z := Zl) soundR7 (own_of soundR7 Try.func46 (by kernel_rfl)) fun args v cs hF hc => ?_
  unfold r16varF at hF
  split at hF
  · rename_i a b
    unfold r16varT at hF
    cases hF
    exact ⟨2000, [], _, r16varR1 a b, ae_nil⟩
  · cases hF

def hbaroT (t v0 v1 v2 v3 v4 v5 v6 v7 : Int) (hb : Bool) : Option (LV × Bool × List (Bool × Bool)) := 
  bif (decide (v0 < -100000000)) then some (LV.tup [V1.agg [At.int IntKind.i64 0, At.int IntKind.i64 0], V1.one (At.int IntKind.i64 1)], (hb), [])
  else 
    bif (decide (v0 > 100000000)) then some (LV.tup [V1.agg [At.int IntKind.i64 0, At.int IntKind.i64 0], V1.one (At.int IntKind.i64 1)], (hb), [])
    else 
      bif (decide (v1 < 1)) then some (LV.tup [V1.agg [At.int IntKind.i64 0, At.int IntKind.i64 0], V1.one (At.int IntKind.i64 1)], (hb), [])
      else 
        bif (decide (v1 > 1000000)) then some (LV.tup [V1.agg [At.int IntKind.i64 0, At.int IntKind.i64 0], V1.one (At.int IntKind.i64 1)], (hb), [])
        else some (LV.tup [V1.agg [At.int IntKind.i64 (mulDivV v0 1073741824 1000), At.int IntKind.i64 (clampV (mulDivV (wr IntKind.i64 (v1 * v1)) 17592186044416 1000000) 1 72057594037927936)], V1.one (At.int IntKind.i64 0)], (hb || mulDivH v0 1073741824 1000), [])
def hbaroF : List LV → Bool → Option (LV × Bool × List (Bool × Bool))
  | [.v (.agg [.int .i64 t, .int .i64 v0, .int .i64 v1, .int .i64 v2, .int .i64 v3, .int .i64 v4, .int .i64 v5, .int .i64 v6, .int .i64 v7])], hb => hbaroT t v0 v1 v2 v3 v4 v5 v6 v7 hb
  | _, _ => none
def hrangeT (t v0 v1 v2 v3 v4 v5 v6 v7 : Int) (hb : Bool) : Option (LV × Bool × List (Bool × Bool)) := 
  bif (decide (v2 < 0)) then some (LV.tup [V1.agg [At.int IntKind.i64 0, At.int IntKind.i64 0, At.int IntKind.i64 0], V1.one (At.int IntKind.i64 1)], (hb), [])
  else 
    bif (decide (v2 > 100)) then some (LV.tup [V1.agg [At.int IntKind.i64 0, At.int IntKind.i64 0, At.int IntKind.i64 0], V1.one (At.int IntKind.i64 1)], (hb), [])
    else 
      bif (decide (v0 < 1)) then some (LV.tup [V1.agg [At.int IntKind.i64 0, At.int IntKind.i64 0, At.int IntKind.i64 0], V1.one (At.int IntKind.i64 1)], (hb), [])
      else 
        bif (decide (v0 > 1000000)) then some (LV.tup [V1.agg [At.int IntKind.i64 0, At.int IntKind.i64 0, At.int IntKind.i64 0], V1.one (At.int IntKind.i64 1)], (hb), [])
        else 
          bif (decide (v1 < 1)) then some (LV.tup [V1.agg [At.int IntKind.i64 0, At.int IntKind.i64 0, At.int IntKind.i64 0], V1.one (At.int IntKind.i64 1)], (hb), [])
          else 
            bif (decide (v1 > 1000000)) then some (LV.tup [V1.agg [At.int IntKind.i64 0, At.int IntKind.i64 0, At.int IntKind.i64 0], V1.one (At.int IntKind.i64 1)], (hb), [])
            else some (LV.tup [V1.agg [At.int IntKind.i64 (mulDivV v0 1073741824 1000), At.int IntKind.i64 (clampV (mulDivV (wr IntKind.i64 (v1 * v1)) 17592186044416 1000000) 1 72057594037927936), At.int IntKind.i64 v2], V1.one (At.int IntKind.i64 0)], (hb || mulDivH v0 1073741824 1000), [])
def hrangeF : List LV → Bool → Option (LV × Bool × List (Bool × Bool))
  | [.v (.agg [.int .i64 t, .int .i64 v0, .int .i64 v1, .int .i64 v2, .int .i64 v3, .int .i64 v4, .int .i64 v5, .int .i64 v6, .int .i64 v7])], hb => hrangeT t v0 v1 v2 v3 v4 v5 v6 v7 hb
  | _, _ => none
theorem spoil1R1 (t v0 v1 v2 v3 v4 v5 v6 v7 : Int) : (runF Try.prog R7S Zl 2000 44 [.v (.one (.int .i64 1)), .v (.agg [.int .i64 t, .int .i64 v0, .int .i64 v1, .int .i64 v2, .int .i64 v3, .int .i64 v4, .int .i64 v5, .int .i64 v6, .int .i64 v7])] [] 0 [none, none, some true, some true, some true, some true, some true, some true, some true, some true, some true]).map (fun r => (r.1, r.2.2.2)) = some (LV.v (V1.one (At.bool true)), [(!decide (v0 ≤ 100000000), true), (!decide (v0 ≤ 100000000), true), (!decide (v0 ≤ 100000000), true), (!decide (v0 ≤ 100000000), true), (!decide (v0 ≤ 100000000), true), (decide (v0 ≥ -100000000), true), (decide (v0 ≥ -100000000), true), (decide (v0 ≥ -100000000), true), (decide (v0 ≥ -100000000), true)]) := by kernel_rfl
theorem spoil1R2 (t v0 v1 v2 v3 v4 v5 v6 v7 : Int) : (runF Try.prog R7S Zl 2000 44 [.v (.one (.int .i64 1)), .v (.agg [.int .i64 t, .int .i64 v0, .int .i64 v1, .int .i64 v2, .int .i64 v3, .int .i64 v4, .int .i64 v5, .int .i64 v6, .int .i64 v7])] [] 0 [none, none, some true, some true, some true, some true, some false, some false, some false, some true, some true, some true, some true, some false, some false]).map (fun r => (r.1, r.2.2.2)) = some (LV.v (V1.one (At.bool !decide (v1 ≤ 1000000))), [(!decide (v0 ≤ 100000000), false), (!decide (v0 ≤ 100000000), false), (decide (v1 ≥ 1), true), (decide (v1 ≥ 1), true), (decide (v1 ≥ 1), true), (decide (v1 ≥ 1), true), (!decide (v0 ≤ 100000000), false), (!decide (v0 ≤ 100000000), false), (!decide (v0 ≤ 100000000), false), (decide (v0 ≥ -100000000), true), (decide (v0 ≥ -100000000), true), (decide (v0 ≥ -100000000), true), (decide (v0 ≥ -100000000), true)]) := by kernel_rfl
theorem spoil1R3 (t v0 v1 v2 v3 v4 v5 v6 v7 : Int) : (runF Try.prog R7S Zl 2000 44 [.v (.one (.int .i64 1)), .v (.agg [.int .i64 t, .int .i64 v0, .int .i64 v1, .int .i64 v2, .int .i64 v3, .int .i64 v4, .int .i64 v5, .int .i64 v6, .int .i64 v7])] [] 0 [none, none, some true, some true, some true, some true, some false, some false, some false, some false, some false, some false, some false, some false, some false]).map (fun r => (r.1, r.2.2.2)) = some (LV.v (V1.one (At.bool !false)), [(!decide (v0 ≤ 100000000), false), (!decide (v0 ≤ 100000000), false), (decide (v1 ≥ 1), false), (decide (v1 ≥ 1), false), (decide (v1 ≥ 1), false), (decide (v1 ≥ 1), false), (!decide (v0 ≤ 100000000), false), (!decide (v0 ≤ 100000000), false), (!decide (v0 ≤ 100000000), false), (decide (v0 ≥ -100000000), true), (decide (v0 ≥ -100000000), true), (decide (v0 ≥ -100000000), true), (decide (v0 ≥ -100000000), true)]) := by kernel_rfl
theorem spoil1R4 (t v0 v1 v2 v3 v4 v5 v6 v7 : Int) : (runF Try.prog R7S Zl 2000 44 [.v (.one (.int .i64 1)), .v (.agg [.int .i64 t, .int .i64 v0, .int .i64 v1, .int .i64 v2, .int .i64 v3, .int .i64 v4, .int .i64 v5, .int .i64 v6, .int .i64 v7])] [] 0 [none, none, some false, some false, some false, some false, none, none, none, none, none]).map (fun r => (r.1, r.2.2.2)) = some (LV.v (V1.one (At.bool true)), [(decide (v0 ≥ -100000000), false), (decide (v0 ≥ -100000000), false), (decide (v0 ≥ -100000000), false), (decide (v0 ≥ -100000000), false)]) := by kernel_rfl
def spoil1T (t v0 v1 v2 v3 v4 v5 v6 v7 : Int) : Option (LV × List (Bool × Bool)) := 
  bif (decide (v0 ≥ -100000000)) then 
    bif (!decide (v0 ≤ 100000000)) then some (LV.v (V1.one (At.bool true)), [])
    else 
      bif (decide (v1 ≥ 1)) then some (LV.v (V1.one (At.bool !decide (v1 ≤ 1000000))), [])
      else some (LV.v (V1.one (At.bool !false)), [])
  else some (LV.v (V1.one (At.bool true)), [])
def spoil1F : List LV → Option (LV × List (Bool × Bool))
  | [.v (.one (.int .i64 1)), .v (.agg [.int .i64 t, .int .i64 v0, .int .i64 v1, .int .i64 v2, .int .i64 v3, .int .i64 v4, .int .i64 v5, .int .i64 v6, .int .i64 v7])] => spoil1T t v0 v1 v2 v3 v4 v5 v6 v7
  | _ => none
theorem sumspoil1 : SumOK Try.prog 44 (pureSum spoil1F) := by
  refine pureSum_run (z := Zl) soundR7 (own_of soundR7 Try.func44 (by kernel_rfl)) fun args v cs hF hc => ?_
  unfold spoil1F at hF
  split at hF
  · rename_i t v0 v1 v2 v3 v4 v5 v6 v7
    unfold spoil1T at hF
    rcases bool_cases (decide (v0 ≥ -100000000)) with h0 | h0
    · rw [cond_t h0] at hF
      rcases bool_cases (!decide (v0 ≤ 100000000)) with h1 | h1
      · rw [cond_t h1] at hF
        cases hF
        exact ⟨2000, [none, none, some true, some true, some true, some true, some true, some true, some true, some true, some true], _, spoil1R1 t v0 v1 v2 v3 v4 v5 v6 v7, ae_cons (h1) (ae_cons (h1) (ae_cons (h1) (ae_cons (h1) (ae_cons (h1) (ae_cons (h0) (ae_cons (h0) (ae_cons (h0) (ae_cons (h0) (ae_nil)))))))))⟩
      · rw [cond_f h1] at hF
        rcases bool_cases (decide (v1 ≥ 1)) with h2 | h2
        · rw [cond_t h2] at hF
          cases hF
          exact ⟨2000, [none, none, some true, some true, some true, some true, some false, some false, some false, some true, some true, some true, some true, some false, some false], _, spoil1R2 t v0 v1 v2 v3 v4 v5 v6 v7, ae_cons (h1) (ae_cons (h1) (ae_cons (h2) (ae_cons (h2) (ae_cons (h2) (ae_cons (h2) (ae_cons (h1) (ae_cons (h1) (ae_cons (h1) (ae_cons (h0) (ae_cons (h0) (ae_cons (h0) (ae_cons (h0) (ae_nil)))))))))))))⟩
        · rw [cond_f h2] at hF
          cases hF
          exact ⟨2000, [none, none, some true, some true, some true, some true, some false, some false, some false, some false, some false, some false, some false, some false, some false], _, spoil1R3 t v0 v1 v2 v3 v4 v5 v6 v7, ae_cons (h1) (ae_cons (h1) (ae_cons (h2) (ae_cons (h2) (ae_cons (h2) (ae_cons (h2) (ae_cons (h1) (ae_cons (h1) (ae_cons (h1) (ae_cons (h0) (ae_cons (h0) (ae_cons (h0) (ae_cons (h0) (ae_nil)))))))))))))⟩
    · rw [cond_f h0] at hF
      cases hF
      exact ⟨2000, [none, none, some false, some false, some false, some false, none, none, none, none, none], _, spoil1R4 t v0 v1 v2 v3 v4 v5 v6 v7, ae_cons (h0) (ae_cons (h0) (ae_cons (h0) (ae_cons (h0) (ae_nil))))⟩
  · cases hF

theorem spoil2R1 (t v0 v1 v2 v3 v4 v5 v6 v7 : Int) : (runF Try.prog R7S Zl 2000 44 [.v (.one (.int .i64 2)), .v (.agg [.int .i64 t, .int .i64 v0, .int .i64 v1, .int .i64 v2, .int .i64 v3, .int .i64 v4, .int .i64 v5, .int .i64 v6, .int .i64 v7])] [] 0 [none, none, none, some true, some true, some true, some true, some true, some true, some true, some true, some true, none, none, none, none, none]).map (fun r => (r.1, r.2.2.2)) = some (LV.v (V1.one (At.bool true)), [(!decide (v0 ≤ 1000000), true), (!decide (v0 ≤ 1000000), true), (!decide (v0 ≤ 1000000), true), (!decide (v0 ≤ 1000000), true), (!decide (v0 ≤ 1000000), true), (decide (v0 ≥ 1), true), (decide (v0 ≥ 1), true), (decide (v0 ≥ 1), true), (decide (v0 ≥ 1), true)]) := by kernel_rfl
theorem spoil2R2 (t v0 v1 v2 v3 v4 v5 v6 v7 : Int) : (runF Try.prog R7S Zl 2000 44 [.v (.one (.int .i64 2)), .v (.agg [.int .i64 t, .int .i64 v0, .int .i64 v1, .int .i64 v2, .int .i64 v3, .int .i64 v4, .int .i64 v5, .int .i64 v6, .int .i64 v7])] [] 0 [none, none, none, some true, some true, some true, some true, some false, some false, some false, some true, some true, some true, some true, some false, some false, some true, some true, some true, some true, some true]).map (fun r => (r.1, r.2.2.2)) = some (LV.v (V1.one (At.bool true)), [(!decide (v1 ≤ 1000000), true), (!decide (v1 ≤ 1000000), true), (!decide (v1 ≤ 1000000), true), (!decide (v1 ≤ 1000000), true), (!decide (v1 ≤ 1000000), true), (!decide (v0 ≤ 1000000), false), (!decide (v0 ≤ 1000000), false), (decide (v1 ≥ 1), true), (decide (v1 ≥ 1), true), (decide (v1 ≥ 1), true), (decide (v1 ≥ 1), true), (!decide (v0 ≤ 1000000), false), (!decide (v0 ≤ 1000000), false), (!decide (v0 ≤ 1000000), false), (decide (v0 ≥ 1), true), (decide (v0 ≥ 1), true), (decide (v0 ≥ 1), true), (decide (v0 ≥ 1), true)]) := by kernel_rfl
theorem spoil2R3 (t v0 v1 v2 v3 v4 v5 v6 v7 : Int) : (runF Try.prog R7S Zl 2000 44 [.v (.one (.int .i64 2)), .v (.agg [.int .i64 t, .int .i64 v0, .int .i64 v1, .int .i64 v2, .int .i64 v3, .int .i64 v4, .int .i64 v5, .int .i64 v6, .int .i64 v7])] [] 0 [none, none, none, some true, some true, some true, some true, some false, some false, some false, some true, some true, some true, some true, some false, some false, some false, some false, some false, some true, some true, some true, some true, some false, some false]).map (fun r => (r.1, r.2.2.2)) = some (LV.v (V1.one (At.bool !decide (v2 ≤ 100))), [(!decide (v1 ≤ 1000000), false), (!decide (v1 ≤ 1000000), false), (decide (v2 ≥ 0), true), (decide (v2 ≥ 0), true), (decide (v2 ≥ 0), true), (decide (v2 ≥ 0), true), (!decide (v1 ≤ 1000000), false), (!decide (v1 ≤ 1000000), false), (!decide (v1 ≤ 1000000), false), (!decide (v0 ≤ 1000000), false), (!decide (v0 ≤ 1000000), false), (decide (v1 ≥ 1), true), (decide (v1 ≥ 1), true), (decide (v1 ≥ 1), true), (decide (v1 ≥ 1), true), (!decide (v0 ≤ 1000000), false), (!decide (v0 ≤ 1000000), false), (!decide (v0 ≤ 1000000), false), (decide (v0 ≥ 1), true), (decide (v0 ≥ 1), true), (decide (v0 ≥ 1), true), (decide (v0 ≥ 1), true)]) := by kernel_rfl
theorem spoil2R4 (t v0 v1 v2 v3 v4 v5 v6 v7 : Int) : (runF Try.prog R7S Zl 2000 44 [.v (.one (.int .i64 2)), .v (.agg [.int .i64 t, .int .i64 v0, .int .i64 v1, .int .i64 v2, .int .i64 v3, .int .i64 v4, .int .i64 v5, .int .i64 v6, .int .i64 v7])] [] 0 [none, none, none, some true, some true, some true, some true, some false, some false, some false, some true, some true, some true, some true, some false, some false, some false, some false, some false, some false, some false, some false, some false, some false, some false]).map (fun r => (r.1, r.2.2.2)) = some (LV.v (V1.one (At.bool !false)), [(!decide (v1 ≤ 1000000), false), (!decide (v1 ≤ 1000000), false), (decide (v2 ≥ 0), false), (decide (v2 ≥ 0), false), (decide (v2 ≥ 0), false), (decide (v2 ≥ 0), false), (!decide (v1 ≤ 1000000), false), (!decide (v1 ≤ 1000000), false), (!decide (v1 ≤ 1000000), false), (!decide (v0 ≤ 1000000), false), (!decide (v0 ≤ 1000000), false), (decide (v1 ≥ 1), true), (decide (v1 ≥ 1), true), (decide (v1 ≥ 1), true), (decide (v1 ≥ 1), true), (!decide (v0 ≤ 1000000), false), (!decide (v0 ≤ 1000000), false), (!decide (v0 ≤ 1000000), false), (decide (v0 ≥ 1), true), (decide (v0 ≥ 1), true), (decide (v0 ≥ 1), true), (decide (v0 ≥ 1), true)]) := by kernel_rfl
theorem spoil2R5 (t v0 v1 v2 v3 v4 v5 v6 v7 : Int) : (runF Try.prog R7S Zl 2000 44 [.v (.one (.int .i64 2)), .v (.agg [.int .i64 t, .int .i64 v0, .int .i64 v1, .int .i64 v2, .int .i64 v3, .int .i64 v4, .int .i64 v5, .int .i64 v6, .int .i64 v7])] [] 0 [none, none, none, some true, some true, some true, some true, some false, some false, some false, some false, some false, some false, some false, some false, some false, none, none, none, none, none]).map (fun r => (r.1, r.2.2.2)) = some (LV.v (V1.one (At.bool true)), [(!decide (v0 ≤ 1000000), false), (!decide (v0 ≤ 1000000), false), (decide (v1 ≥ 1), false), (decide (v1 ≥ 1), false), (decide (v1 ≥ 1), false), (decide (v1 ≥ 1), false), (!decide (v0 ≤ 1000000), false), (!decide (v0 ≤ 1000000), false), (!decide (v0 ≤ 1000000), false), (decide (v0 ≥ 1), true), (decide (v0 ≥ 1), true), (decide (v0 ≥ 1), true), (decide (v0 ≥ 1), true)]) := by kernel_rfl
theorem spoil2R6 (t v0 v1 v2 v3 v4 v5 v6 v7 : Int) : (runF Try.prog R7S Zl 2000 44 [.v (.one (.int .i64 2)), .v (.agg [.int .i64 t, .int .i64 v0, .int .i64 v1, .int .i64 v2, .int .i64 v3, .int .i64 v4, .int .i64 v5, .int .i64 v6, .int .i64 v7])] [] 0 [none, none, none, some false, some false, some false, some false, none, none, none, none, none, none, none, none, none, none]).map (fun r => (r.1, r.2.2.2)) = some (LV.v (V1.one (At.bool true)), [(decide (v0 ≥ 1), false), (decide (v0 ≥ 1), false), (decide (v0 ≥ 1), false), (decide (v0 ≥ 1), false)]) := by kernel_rfl
def spoil2T (t v0 v1 v2 v3 v4 v5 v6 v7 : Int) : Option (LV × List (Bool × Bool)) := 
  bif (decide (v0 ≥ 1)) then 
    bif (!decide (v0 ≤ 1000000)) then some (LV.v (V1.one (At.bool true)), [])
    else 
      bif (decide (v1 ≥ 1)) then 
        bif (!decide (v1 ≤ 1000000)) then some (LV.v (V1.one (At.bool true)), [])
        else 
          bif (decide (v2 ≥ 0)) then some (LV.v (V1.one (At.bool !decide (v2 ≤ 100))), [])
          else some (LV.v (V1.one (At.bool !false)), [])
      else some (LV.v (V1.one (At.bool true)), [])
  else some (LV.v (V1.one (At.bool true)), [])
def spoil2F : List LV → Option (LV × List (Bool × Bool))
  | [.v (.one (.int .i64 2)), .v (.agg [.int .i64 t, .int .i64 v0, .int .i64 v1, .int .i64 v2, .int .i64 v3, .int .i64 v4, .int .i64 v5, .int .i64 v6, .int .i64 v7])] => spoil2T t v0 v1 v2 v3 v4 v5 v6 v7
  | _ => none
theorem sumspoil2 : SumOK Try.prog 44 (pureSum spoil2F) := by
  refine pureSum_run (z := Zl) soundR7 (own_of soundR7 Try.func44 (by kernel_rfl)) fun args v cs hF hc => ?_
  unfold spoil2F at hF
  split at hF
  · rename_i t v0 v1 v2 v3 v4 v5 v6 v7
    unfold spoil2T at hF
    rcases bool_cases (decide (v0 ≥ 1)) with h0 | h0
    · rw [cond_t h0] at hF
      rcases bool_cases (!decide (v0 ≤ 1000000)) with h1 | h1
      · rw [cond_t h1] at hF
        cases hF
        exact ⟨2000, [none, none, none, some true, some true, some true, some true, some true, some true, some true, some true, some true, none, none, none, none, none], _, spoil2R1 t v0 v1 v2 v3 v4 v5 v6 v7, ae_cons (h1) (ae_cons (h1) (ae_cons (h1) (ae_cons (h1) (ae_cons (h1) (ae_cons (h0) (ae_cons (h0) (ae_cons (h0) (ae_cons (h0) (ae_nil)))))))))⟩
      · rw [cond_f h1] at hF
        rcases bool_cases (decide (v1 ≥ 1)) with h2 | h2
        · rw [cond_t h2] at hF
          rcases bool_cases (!decide (v1 ≤ 1000000)) with h3 | h3
          · rw [cond_t h3] at hF
            cases hF
            exact ⟨2000, [none, none, none, some true, some true, some true, some true, some false, some false, some false, some true, some true, some true, some true, some false, some false, some true, some true, some true, some true, some true], _, spoil2R2 t v0 v1 v2 v3 v4 v5 v6 v7, ae_cons (h3) (ae_cons (h3) (ae_cons (h3) (ae_cons (h3) (ae_cons (h3) (ae_cons (h1) (ae_cons (h1) (ae_cons (h2) (ae_cons (h2) (ae_cons (h2) (ae_cons (h2) (ae_cons (h1) (ae_cons (h1) (ae_cons (h1) (ae_cons (h0) (ae_cons (h0) (ae_cons (h0) (ae_cons (h0) (ae_nil))))))))))))))))))⟩
          · rw [cond_f h3] at hF
            rcases bool_cases (decide (v2 ≥ 0)) with h4 | h4
            · rw [cond_t h4] at hF
              cases hF
              exact ⟨2000, [none, none, none, some true, some true, some true, some true, some false, some false, some false, some true, some true, some true, some true, some false, some false, some false, some false, some false, some true, some true, some true, some true, some false, some false], _, spoil2R3 t v0 v1 v2 v3 v4 v5 v6 v7, ae_cons (h3) (ae_cons (h3) (ae_cons (h4) (ae_cons (h4) (ae_cons (h4) (ae_cons (h4) (ae_cons (h3) (ae_cons (h3) (ae_cons (h3) (ae_cons (h1) (ae_cons (h1) (ae_cons (h2) (ae_cons (h2) (ae_cons (h2) (ae_cons (h2) (ae_cons (h1) (ae_cons (h1) (ae_cons (h1) (ae_cons (h0) (ae_cons (h0) (ae_cons (h0) (ae_cons (h0) (ae_nil))))))))))))))))))))))⟩
            · rw [cond_f h4] at hF
              cases hF
              exact ⟨2000, [none, none, none, some true, some true, some true, some true, some false, some false, some false, some true, some true, some true, some true, some false, some false, some false, some false, some false, some false, some false, some false, some false, some false, some false], _, spoil2R4 t v0 v1 v2 v3 v4 v5 v6 v7, ae_cons (h3) (ae_cons (h3) (ae_cons (h4) (ae_cons (h4) (ae_cons (h4) (ae_cons (h4) (ae_cons (h3) (ae_cons (h3) (ae_cons (h3) (ae_cons (h1) (ae_cons (h1) (ae_cons (h2) (ae_cons (h2) (ae_cons (h2) (ae_cons (h2) (ae_cons (h1) (ae_cons (h1) (ae_cons (h1) (ae_cons (h0) (ae_cons (h0) (ae_cons (h0) (ae_cons (h0) (ae_nil))))))))))))))))))))))⟩
        · rw [cond_f h2] at hF
          cases hF
          exact ⟨2000, [none, none, none, some true, some true, some true, some true, some false, some false, some false, some false, some false, some false, some false, some false, some false, none, none, none, none, none], _, spoil2R5 t v0 v1 v2 v3 v4 v5 v6 v7, ae_cons (h1) (ae_cons (h1) (ae_cons (h2) (ae_cons (h2) (ae_cons (h2) (ae_cons (h2) (ae_cons (h1) (ae_cons (h1) (ae_cons (h1) (ae_cons (h0) (ae_cons (h0) (ae_cons (h0) (ae_cons (h0) (ae_nil)))))))))))))⟩
    · rw [cond_f h0] at hF
      cases hF
      exact ⟨2000, [none, none, none, some false, some false, some false, some false, none, none, none, none, none, none, none, none, none, none], _, spoil2R6 t v0 v1 v2 v3 v4 v5 v6 v7, ae_cons (h0) (ae_cons (h0) (ae_cons (h0) (ae_cons (h0) (ae_nil))))⟩
  · cases hF


/-- Has it no form? -/
def spB (v0 v1 : Int) : Bool := !(decide (-100000000 ≤ v0) && (decide (v0 ≤ 100000000) && (decide (1 ≤ v1) && decide (v1 ≤ 1000000))))
def spR (v0 v1 v2 : Int) : Bool := !(decide (1 ≤ v0) && (decide (v0 ≤ 1000000) && (decide (1 ≤ v1) && (decide (v1 ≤ 1000000) && (decide (0 ≤ v2) && decide (v2 ≤ 100))))))
def varV (v1 : Int) : Int := clampV (mulDivV (wr IntKind.i64 (v1 * v1)) 17592186044416 1000000) 1 72057594037927936
def hbaroS : List LV → Bool → Option (LV × Bool × List (Bool × Bool))
  | [.v (.agg [.int .i64 t, .int .i64 v0, .int .i64 v1, .int .i64 v2, .int .i64 v3, .int .i64 v4, .int .i64 v5, .int .i64 v6, .int .i64 v7])], hb =>
    some (LV.tup [V1.agg [At.int IntKind.i64 (bif spB v0 v1 then 0 else mulDivV v0 1073741824 1000), At.int IntKind.i64 (bif spB v0 v1 then 0 else varV v1)], V1.one (At.int IntKind.i64 (bif spB v0 v1 then 1 else 0))], hb || (!spB v0 v1 && mulDivH v0 1073741824 1000), [])
  | _, _ => none
def hrangeS : List LV → Bool → Option (LV × Bool × List (Bool × Bool))
  | [.v (.agg [.int .i64 t, .int .i64 v0, .int .i64 v1, .int .i64 v2, .int .i64 v3, .int .i64 v4, .int .i64 v5, .int .i64 v6, .int .i64 v7])], hb =>
    some (LV.tup [V1.agg [At.int IntKind.i64 (bif spR v0 v1 v2 then 0 else mulDivV v0 1073741824 1000), At.int IntKind.i64 (bif spR v0 v1 v2 then 0 else varV v1), At.int IntKind.i64 (bif spR v0 v1 v2 then 0 else v2)], V1.one (At.int IntKind.i64 (bif spR v0 v1 v2 then 1 else 0))], hb || (!spR v0 v1 v2 && mulDivH v0 1073741824 1000), [])
  | _, _ => none
def spoil1S : List LV → Option (LV × List (Bool × Bool))
  | [.v (.one (.int .i64 1)), .v (.agg [.int .i64 t, .int .i64 v0, .int .i64 v1, .int .i64 v2, .int .i64 v3, .int .i64 v4, .int .i64 v5, .int .i64 v6, .int .i64 v7])] => some (.v (.one (.bool (spB v0 v1))), [])
  | _ => none
theorem sumSpoil1 : SumOK Try.prog 44 (pureSum spoil1S) := by
  refine sumspoil1.pure_re fun args v cs hF hc => ?_
  unfold spoil1S at hF
  split at hF
  · rename_i t v0 v1 v2 v3 v4 v5 v6 v7
    cases hF
    refine ⟨[], ?_, ae_nil⟩
    show spoil1T t v0 v1 v2 v3 v4 v5 v6 v7 = _
    unfold spoil1T spB
    by_cases h1 : v0 ≥ -100000000 <;> by_cases h2 : v0 ≤ 100000000 <;> by_cases h3 : v1 ≥ 1 <;> simp [h1, h2, h3] <;> omega
  · cases hF
def spoil2S : List LV → Option (LV × List (Bool × Bool))
  | [.v (.one (.int .i64 2)), .v (.agg [.int .i64 t, .int .i64 v0, .int .i64 v1, .int .i64 v2, .int .i64 v3, .int .i64 v4, .int .i64 v5, .int .i64 v6, .int .i64 v7])] => some (.v (.one (.bool (spR v0 v1 v2))), [])
  | _ => none
theorem sumSpoil2 : SumOK Try.prog 44 (pureSum spoil2S) := by
  refine sumspoil2.pure_re fun args v cs hF hc => ?_
  unfold spoil2S at hF
  split at hF
  · rename_i t v0 v1 v2 v3 v4 v5 v6 v7
    cases hF
    refine ⟨[], ?_, ae_nil⟩
    show spoil2T t v0 v1 v2 v3 v4 v5 v6 v7 = _
    unfold spoil2T spR
    by_cases h1 : v0 ≥ 1 <;> by_cases h2 : v0 ≤ 1000000 <;> by_cases h3 : v1 ≥ 1 <;> by_cases h4 : v1 ≤ 1000000 <;> by_cases h5 : v2 ≥ 0 <;> simp [h1, h2, h3, h4, h5] <;> omega
  · cases hF

noncomputable def S33 : FuncId → Option SumK := more (more R7S 46 (pureSum r16varF)) 44 (elseS (pureSum spoil1S) (pureSum spoil2S))
theorem sound33 : Sound Try.prog S33 := (soundR7.more sumr16var).more (elseS_ok sumSpoil1 sumSpoil2)
end Go.Proofs.Ytmcbgolflbkndaa

/- A summary less: the function is walked into again. -/
namespace Go.Lr
def dropS (S : FuncId → Option SumK) (f : FuncId) : FuncId → Option SumK := fun g =>
  match Nat.beq g f with
  | true => none
  | false => S g
theorem Sound.drop {P : Program} {S : FuncId → Option SumK} (h : Sound P S) (f : FuncId) : Sound P (dropS S f) := by
  refine ⟨fun g t hg => ?_, h.mix, h.ng⟩
  unfold dropS at hg
  split at hg
  · cases hg
  · exact h.sums g t hg
/-- Lists of decisions: so many that the kernel knows, so many that are true, false. -/
def nn : Nat → List (Option Bool) → List (Option Bool)
  | 0, l => l
  | n + 1, l => none :: nn n l
def tt : Nat → List (Option Bool) → List (Option Bool)
  | 0, l => l
  | n + 1, l => some true :: tt n l
def ff : Nat → List (Option Bool) → List (Option Bool)
  | 0, l => l
  | n + 1, l => some false :: ff n l
end Go.Lr

/- All summaries for MagReads. -/
namespace Go.Proofs.Ytmcbgolflbkndaa
open Go.Lr
noncomputable def S54 : FuncId → Option SumK := more (more R7S 46 (pureSum r16varF)) 38 (pureSum trueF)
theorem sound54 : Sound Try.prog S54 := (soundR7.more sumr16var).more sumAwakeM
end Go.Proofs.Ytmcbgolflbkndaa

/- The law MagReads: its runs, and why they answer true. -/
namespace Go.Proofs.Ytmcbgolflbkndaa
open Go.Lr Go.RowKit
set_option linter.unusedVariables false
set_option linter.unusedSimpArgs false

theorem rA0 (t v0 v1 v2 v3 v4 v5 v6 v7 : Int) : (runF Try.prog S54 Zl 4000 8 [.v (.agg [.int .i64 t, .int .i64 v0, .int .i64 v1, .int .i64 v2, .int .i64 v3, .int .i64 v4, .int .i64 v5, .int .i64 v6, .int .i64 v7])] [] 0 (nn 1 (tt 5 (nn 6 (ff 4 []))))).map (fun r => (r.1, r.2.2.2)) = some (LV.v (V1.one (At.bool (0 == 0 && (0 == 0 && (0 == 0 && true)) && (0 == 0 && true)))), [(decide (v0 ≥ -2000000), false), (decide (v0 ≥ -2000000), false), (decide (v0 ≥ -2000000), false), (decide (v0 ≥ -2000000), false), (decide (v3 < 1), true), (decide (v3 < 1), true), (decide (v3 < 1), true), (decide (v3 < 1), true), (decide (v3 < 1), true)]) := by kernel_rfl
theorem rA1 (t v0 v1 v2 v3 v4 v5 v6 v7 : Int) : (runF Try.prog S54 Zl 4000 8 [.v (.agg [.int .i64 t, .int .i64 v0, .int .i64 v1, .int .i64 v2, .int .i64 v3, .int .i64 v4, .int .i64 v5, .int .i64 v6, .int .i64 v7])] [] 0 (nn 1 (tt 5 (nn 6 (tt 5 []))))).map (fun r => (r.1, r.2.2.2)) = some (LV.v (V1.one (At.bool (0 == 0 && (0 == 0 && (0 == 0 && true)) && (0 == 0 && true)))), [(!decide (v0 ≤ 2000000), true), (decide (v0 ≥ -2000000), true), (decide (v0 ≥ -2000000), true), (decide (v0 ≥ -2000000), true), (decide (v0 ≥ -2000000), true), (decide (v3 < 1), true), (decide (v3 < 1), true), (decide (v3 < 1), true), (decide (v3 < 1), true), (decide (v3 < 1), true)]) := by kernel_rfl
theorem rA2 (t v0 v1 v2 v3 v4 v5 v6 v7 : Int) : (runF Try.prog S54 Zl 4000 8 [.v (.agg [.int .i64 t, .int .i64 v0, .int .i64 v1, .int .i64 v2, .int .i64 v3, .int .i64 v4, .int .i64 v5, .int .i64 v6, .int .i64 v7])] [] 0 (nn 1 (tt 5 (nn 6 (tt 4 (ff 1 (nn 1 (ff 4 [])))))))).map (fun r => (r.1, r.2.2.2)) = some (LV.v (V1.one (At.bool (0 == 0 && (0 == 0 && (0 == 0 && true)) && (0 == 0 && true)))), [(decide (v1 ≥ -2000000), false), (decide (v1 ≥ -2000000), false), (decide (v1 ≥ -2000000), false), (decide (v1 ≥ -2000000), false), (!decide (v0 ≤ 2000000), false), (decide (v0 ≥ -2000000), true), (decide (v0 ≥ -2000000), true), (decide (v0 ≥ -2000000), true), (decide (v0 ≥ -2000000), true), (decide (v3 < 1), true), (decide (v3 < 1), true), (decide (v3 < 1), true), (decide (v3 < 1), true), (decide (v3 < 1), true)]) := by kernel_rfl
theorem rA3 (t v0 v1 v2 v3 v4 v5 v6 v7 : Int) : (runF Try.prog S54 Zl 4000 8 [.v (.agg [.int .i64 t, .int .i64 v0, .int .i64 v1, .int .i64 v2, .int .i64 v3, .int .i64 v4, .int .i64 v5, .int .i64 v6, .int .i64 v7])] [] 0 (nn 1 (tt 5 (nn 6 (tt 4 (ff 1 (nn 1 (tt 5 [])))))))).map (fun r => (r.1, r.2.2.2)) = some (LV.v (V1.one (At.bool (0 == 0 && (0 == 0 && (0 == 0 && true)) && (0 == 0 && true)))), [(!decide (v1 ≤ 2000000), true), (decide (v1 ≥ -2000000), true), (decide (v1 ≥ -2000000), true), (decide (v1 ≥ -2000000), true), (decide (v1 ≥ -2000000), true), (!decide (v0 ≤ 2000000), false), (decide (v0 ≥ -2000000), true), (decide (v0 ≥ -2000000), true), (decide (v0 ≥ -2000000), true), (decide (v0 ≥ -2000000), true), (decide (v3 < 1), true), (decide (v3 < 1), true), (decide (v3 < 1), true), (decide (v3 < 1), true), (decide (v3 < 1), true)]) := by kernel_rfl
theorem rA4 (t v0 v1 v2 v3 v4 v5 v6 v7 : Int) : (runF Try.prog S54 Zl 4000 8 [.v (.agg [.int .i64 t, .int .i64 v0, .int .i64 v1, .int .i64 v2, .int .i64 v3, .int .i64 v4, .int .i64 v5, .int .i64 v6, .int .i64 v7])] [] 0 (nn 1 (tt 5 (nn 6 (tt 4 (ff 1 (nn 1 (tt 4 (ff 1 (nn 1 (ff 4 []))))))))))).map (fun r => (r.1, r.2.2.2)) = some (LV.v (V1.one (At.bool (0 == 0 && (0 == 0 && (0 == 0 && true)) && (0 == 0 && true)))), [(decide (v2 ≥ -2000000), false), (decide (v2 ≥ -2000000), false), (decide (v2 ≥ -2000000), false), (decide (v2 ≥ -2000000), false), (!decide (v1 ≤ 2000000), false), (decide (v1 ≥ -2000000), true), (decide (v1 ≥ -2000000), true), (decide (v1 ≥ -2000000), true), (decide (v1 ≥ -2000000), true), (!decide (v0 ≤ 2000000), false), (decide (v0 ≥ -2000000), true), (decide (v0 ≥ -2000000), true), (decide (v0 ≥ -2000000), true), (decide (v0 ≥ -2000000), true), (decide (v3 < 1), true), (decide (v3 < 1), true), (decide (v3 < 1), true), (decide (v3 < 1), true), (decide (v3 < 1), true)]) := by kernel_rfl
theorem rA5 (t v0 v1 v2 v3 v4 v5 v6 v7 : Int) : (runF Try.prog S54 Zl 4000 8 [.v (.agg [.int .i64 t, .int .i64 v0, .int .i64 v1, .int .i64 v2, .int .i64 v3, .int .i64 v4, .int .i64 v5, .int .i64 v6, .int .i64 v7])] [] 0 (nn 1 (tt 5 (nn 6 (tt 4 (ff 1 (nn 1 (tt 4 (ff 1 (nn 1 (tt 5 []))))))))))).map (fun r => (r.1, r.2.2.2)) = some (LV.v (V1.one (At.bool (0 == 0 && (0 == 0 && (0 == 0 && true)) && (0 == 0 && true)))), [(!decide (v2 ≤ 2000000), true), (decide (v2 ≥ -2000000), true), (decide (v2 ≥ -2000000), true), (decide (v2 ≥ -2000000), true), (decide (v2 ≥ -2000000), true), (!decide (v1 ≤ 2000000), false), (decide (v1 ≥ -2000000), true), (decide (v1 ≥ -2000000), true), (decide (v1 ≥ -2000000), true), (decide (v1 ≥ -2000000), true), (!decide (v0 ≤ 2000000), false), (decide (v0 ≥ -2000000), true), (decide (v0 ≥ -2000000), true), (decide (v0 ≥ -2000000), true), (decide (v0 ≥ -2000000), true), (decide (v3 < 1), true), (decide (v3 < 1), true), (decide (v3 < 1), true), (decide (v3 < 1), true), (decide (v3 < 1), true)]) := by kernel_rfl
theorem rA6 (t v0 v1 v2 v3 v4 v5 v6 v7 : Int) : (runF Try.prog S54 Zl 4000 8 [.v (.agg [.int .i64 t, .int .i64 v0, .int .i64 v1, .int .i64 v2, .int .i64 v3, .int .i64 v4, .int .i64 v5, .int .i64 v6, .int .i64 v7])] [] 0 (nn 1 (tt 5 (nn 6 (tt 4 (ff 1 (nn 1 (tt 4 (ff 1 (nn 1 (tt 4 (ff 1 (nn 1 (ff 4 [])))))))))))))).map (fun r => (r.1, r.2.2.2)) = some (LV.v (V1.one (At.bool (0 == 0 && (0 == 0 && (0 == 0 && true)) && (0 == 0 && true)))), [(decide (v3 ≥ 1), false), (decide (v3 ≥ 1), false), (decide (v3 ≥ 1), false), (decide (v3 ≥ 1), false), (!decide (v2 ≤ 2000000), false), (decide (v2 ≥ -2000000), true), (decide (v2 ≥ -2000000), true), (decide (v2 ≥ -2000000), true), (decide (v2 ≥ -2000000), true), (!decide (v1 ≤ 2000000), false), (decide (v1 ≥ -2000000), true), (decide (v1 ≥ -2000000), true), (decide (v1 ≥ -2000000), true), (decide (v1 ≥ -2000000), true), (!decide (v0 ≤ 2000000), false), (decide (v0 ≥ -2000000), true), (decide (v0 ≥ -2000000), true), (decide (v0 ≥ -2000000), true), (decide (v0 ≥ -2000000), true), (decide (v3 < 1), true), (decide (v3 < 1), true), (decide (v3 < 1), true), (decide (v3 < 1), true), (decide (v3 < 1), true)]) := by kernel_rfl
theorem rB0 (t v0 v1 v2 v3 v4 v5 v6 v7 : Int) : (runF Try.prog S54 Zl 4000 8 [.v (.agg [.int .i64 t, .int .i64 v0, .int .i64 v1, .int .i64 v2, .int .i64 v3, .int .i64 v4, .int .i64 v5, .int .i64 v6, .int .i64 v7])] [] 0 (nn 1 (ff 5 (tt 1 (nn 5 (ff 4 [])))))).map (fun r => (r.1, r.2.2.2)) = some (LV.v (V1.one (At.bool (0 == 0 && (0 == 0 && (0 == 0 && true)) && (0 == 0 && true)))), [(decide (v0 ≥ -2000000), false), (decide (v0 ≥ -2000000), false), (decide (v0 ≥ -2000000), false), (decide (v0 ≥ -2000000), false), (decide (v3 > 1000000), true), (decide (v3 < 1), false), (decide (v3 < 1), false), (decide (v3 < 1), false), (decide (v3 < 1), false), (decide (v3 < 1), false)]) := by kernel_rfl
theorem rB1 (t v0 v1 v2 v3 v4 v5 v6 v7 : Int) : (runF Try.prog S54 Zl 4000 8 [.v (.agg [.int .i64 t, .int .i64 v0, .int .i64 v1, .int .i64 v2, .int .i64 v3, .int .i64 v4, .int .i64 v5, .int .i64 v6, .int .i64 v7])] [] 0 (nn 1 (ff 5 (tt 1 (nn 5 (tt 5 [])))))).map (fun r => (r.1, r.2.2.2)) = some (LV.v (V1.one (At.bool (0 == 0 && (0 == 0 && (0 == 0 && true)) && (0 == 0 && true)))), [(!decide (v0 ≤ 2000000), true), (decide (v0 ≥ -2000000), true), (decide (v0 ≥ -2000000), true), (decide (v0 ≥ -2000000), true), (decide (v0 ≥ -2000000), true), (decide (v3 > 1000000), true), (decide (v3 < 1), false), (decide (v3 < 1), false), (decide (v3 < 1), false), (decide (v3 < 1), false), (decide (v3 < 1), false)]) := by kernel_rfl
theorem rB2 (t v0 v1 v2 v3 v4 v5 v6 v7 : Int) : (runF Try.prog S54 Zl 4000 8 [.v (.agg [.int .i64 t, .int .i64 v0, .int .i64 v1, .int .i64 v2, .int .i64 v3, .int .i64 v4, .int .i64 v5, .int .i64 v6, .int .i64 v7])] [] 0 (nn 1 (ff 5 (tt 1 (nn 5 (tt 4 (ff 1 (nn 1 (ff 4 []))))))))).map (fun r => (r.1, r.2.2.2)) = some (LV.v (V1.one (At.bool (0 == 0 && (0 == 0 && (0 == 0 && true)) && (0 == 0 && true)))), [(decide (v1 ≥ -2000000), false), (decide (v1 ≥ -2000000), false), (decide (v1 ≥ -2000000), false), (decide (v1 ≥ -2000000), false), (!decide (v0 ≤ 2000000), false), (decide (v0 ≥ -2000000), true), (decide (v0 ≥ -2000000), true), (decide (v0 ≥ -2000000), true), (decide (v0 ≥ -2000000), true), (decide (v3 > 1000000), true), (decide (v3 < 1), false), (decide (v3 < 1), false), (decide (v3 < 1), false), (decide (v3 < 1), false), (decide (v3 < 1), false)]) := by kernel_rfl
theorem rB3 (t v0 v1 v2 v3 v4 v5 v6 v7 : Int) : (runF Try.prog S54 Zl 4000 8 [.v (.agg [.int .i64 t, .int .i64 v0, .int .i64 v1, .int .i64 v2, .int .i64 v3, .int .i64 v4, .int .i64 v5, .int .i64 v6, .int .i64 v7])] [] 0 (nn 1 (ff 5 (tt 1 (nn 5 (tt 4 (ff 1 (nn 1 (tt 5 []))))))))).map (fun r => (r.1, r.2.2.2)) = some (LV.v (V1.one (At.bool (0 == 0 && (0 == 0 && (0 == 0 && true)) && (0 == 0 && true)))), [(!decide (v1 ≤ 2000000), true), (decide (v1 ≥ -2000000), true), (decide (v1 ≥ -2000000), true), (decide (v1 ≥ -2000000), true), (decide (v1 ≥ -2000000), true), (!decide (v0 ≤ 2000000), false), (decide (v0 ≥ -2000000), true), (decide (v0 ≥ -2000000), true), (decide (v0 ≥ -2000000), true), (decide (v0 ≥ -2000000), true), (decide (v3 > 1000000), true), (decide (v3 < 1), false), (decide (v3 < 1), false), (decide (v3 < 1), false), (decide (v3 < 1), false), (decide (v3 < 1), false)]) := by kernel_rfl
theorem rB4 (t v0 v1 v2 v3 v4 v5 v6 v7 : Int) : (runF Try.prog S54 Zl 4000 8 [.v (.agg [.int .i64 t, .int .i64 v0, .int .i64 v1, .int .i64 v2, .int .i64 v3, .int .i64 v4, .int .i64 v5, .int .i64 v6, .int .i64 v7])] [] 0 (nn 1 (ff 5 (tt 1 (nn 5 (tt 4 (ff 1 (nn 1 (tt 4 (ff 1 (nn 1 (ff 4 [])))))))))))).map (fun r => (r.1, r.2.2.2)) = some (LV.v (V1.one (At.bool (0 == 0 && (0 == 0 && (0 == 0 && true)) && (0 == 0 && true)))), [(decide (v2 ≥ -2000000), false), (decide (v2 ≥ -2000000), false), (decide (v2 ≥ -2000000), false), (decide (v2 ≥ -2000000), false), (!decide (v1 ≤ 2000000), false), (decide (v1 ≥ -2000000), true), (decide (v1 ≥ -2000000), true), (decide (v1 ≥ -2000000), true), (decide (v1 ≥ -2000000), true), (!decide (v0 ≤ 2000000), false), (decide (v0 ≥ -2000000), true), (decide (v0 ≥ -2000000), true), (decide (v0 ≥ -2000000), true), (decide (v0 ≥ -2000000), true), (decide (v3 > 1000000), true), (decide (v3 < 1), false), (decide (v3 < 1), false), (decide (v3 < 1), false), (decide (v3 < 1), false), (decide (v3 < 1), false)]) := by kernel_rfl
theorem rB5 (t v0 v1 v2 v3 v4 v5 v6 v7 : Int) : (runF Try.prog S54 Zl 4000 8 [.v (.agg [.int .i64 t, .int .i64 v0, .int .i64 v1, .int .i64 v2, .int .i64 v3, .int .i64 v4, .int .i64 v5, .int .i64 v6, .int .i64 v7])] [] 0 (nn 1 (ff 5 (tt 1 (nn 5 (tt 4 (ff 1 (nn 1 (tt 4 (ff 1 (nn 1 (tt 5 [])))))))))))).map (fun r => (r.1, r.2.2.2)) = some (LV.v (V1.one (At.bool (0 == 0 && (0 == 0 && (0 == 0 && true)) && (0 == 0 && true)))), [(!decide (v2 ≤ 2000000), true), (decide (v2 ≥ -2000000), true), (decide (v2 ≥ -2000000), true), (decide (v2 ≥ -2000000), true), (decide (v2 ≥ -2000000), true), (!decide (v1 ≤ 2000000), false), (decide (v1 ≥ -2000000), true), (decide (v1 ≥ -2000000), true), (decide (v1 ≥ -2000000), true), (decide (v1 ≥ -2000000), true), (!decide (v0 ≤ 2000000), false), (decide (v0 ≥ -2000000), true), (decide (v0 ≥ -2000000), true), (decide (v0 ≥ -2000000), true), (decide (v0 ≥ -2000000), true), (decide (v3 > 1000000), true), (decide (v3 < 1), false), (decide (v3 < 1), false), (decide (v3 < 1), false), (decide (v3 < 1), false), (decide (v3 < 1), false)]) := by kernel_rfl
theorem rB7 (t v0 v1 v2 v3 v4 v5 v6 v7 : Int) : (runF Try.prog S54 Zl 4000 8 [.v (.agg [.int .i64 t, .int .i64 v0, .int .i64 v1, .int .i64 v2, .int .i64 v3, .int .i64 v4, .int .i64 v5, .int .i64 v6, .int .i64 v7])] [] 0 (nn 1 (ff 5 (tt 1 (nn 5 (tt 4 (ff 1 (nn 1 (tt 4 (ff 1 (nn 1 (tt 4 (ff 1 (nn 1 (tt 5 []))))))))))))))).map (fun r => (r.1, r.2.2.2)) = some (LV.v (V1.one (At.bool (0 == 0 && (0 == 0 && (0 == 0 && true)) && (0 == 0 && true)))), [(!decide (v3 ≤ 1000000), true), (decide (v3 ≥ 1), true), (decide (v3 ≥ 1), true), (decide (v3 ≥ 1), true), (decide (v3 ≥ 1), true), (!decide (v2 ≤ 2000000), false), (decide (v2 ≥ -2000000), true), (decide (v2 ≥ -2000000), true), (decide (v2 ≥ -2000000), true), (decide (v2 ≥ -2000000), true), (!decide (v1 ≤ 2000000), false), (decide (v1 ≥ -2000000), true), (decide (v1 ≥ -2000000), true), (decide (v1 ≥ -2000000), true), (decide (v1 ≥ -2000000), true), (!decide (v0 ≤ 2000000), false), (decide (v0 ≥ -2000000), true), (decide (v0 ≥ -2000000), true), (decide (v0 ≥ -2000000), true), (decide (v0 ≥ -2000000), true), (decide (v3 > 1000000), true), (decide (v3 < 1), false), (decide (v3 < 1), false), (decide (v3 < 1), false), (decide (v3 < 1), false), (decide (v3 < 1), false)]) := by kernel_rfl
theorem rC0 (t v0 v1 v2 v3 v4 v5 v6 v7 : Int) : (runF Try.prog S54 Zl 4000 8 [.v (.agg [.int .i64 t, .int .i64 v0, .int .i64 v1, .int .i64 v2, .int .i64 v3, .int .i64 v4, .int .i64 v5, .int .i64 v6, .int .i64 v7])] [] 0 (nn 1 (ff 6 (nn 1 (tt 6 (nn 6 (ff 4 []))))))).map (fun r => (r.1, r.2.2.2)) = some (LV.v (V1.one (At.bool (0 == 0 && (0 == 0 && (0 == 0 && true)) && (0 == 0 && true)))), [(decide (v0 ≥ -2000000), false), (decide (v0 ≥ -2000000), false), (decide (v0 ≥ -2000000), false), (decide (v0 ≥ -2000000), false), (decide (v0 < -2000000), true), (decide (v0 < -2000000), true), (decide (v0 < -2000000), true), (decide (v0 < -2000000), true), (decide (v0 < -2000000), true), (decide (v0 < -2000000), true), (decide (v3 > 1000000), false), (decide (v3 < 1), false), (decide (v3 < 1), false), (decide (v3 < 1), false), (decide (v3 < 1), false), (decide (v3 < 1), false)]) := by kernel_rfl
theorem rC1 (t v0 v1 v2 v3 v4 v5 v6 v7 : Int) : (runF Try.prog S54 Zl 4000 8 [.v (.agg [.int .i64 t, .int .i64 v0, .int .i64 v1, .int .i64 v2, .int .i64 v3, .int .i64 v4, .int .i64 v5, .int .i64 v6, .int .i64 v7])] [] 0 (nn 1 (ff 6 (nn 1 (ff 6 (tt 1 (nn 5 (tt 5 [])))))))).map (fun r => (r.1, r.2.2.2)) = some (LV.v (V1.one (At.bool (0 == 0 && (0 == 0 && (0 == 0 && true)) && (0 == 0 && true)))), [(!decide (v0 ≤ 2000000), true), (decide (v0 ≥ -2000000), true), (decide (v0 ≥ -2000000), true), (decide (v0 ≥ -2000000), true), (decide (v0 ≥ -2000000), true), (decide (v0 > 2000000), true), (decide (v0 < -2000000), false), (decide (v0 < -2000000), false), (decide (v0 < -2000000), false), (decide (v0 < -2000000), false), (decide (v0 < -2000000), false), (decide (v0 < -2000000), false), (decide (v3 > 1000000), false), (decide (v3 < 1), false), (decide (v3 < 1), false), (decide (v3 < 1), false), (decide (v3 < 1), false), (decide (v3 < 1), false)]) := by kernel_rfl
theorem rC2 (t v0 v1 v2 v3 v4 v5 v6 v7 : Int) : (runF Try.prog S54 Zl 4000 8 [.v (.agg [.int .i64 t, .int .i64 v0, .int .i64 v1, .int .i64 v2, .int .i64 v3, .int .i64 v4, .int .i64 v5, .int .i64 v6, .int .i64 v7])] [] 0 (nn 1 (ff 6 (nn 1 (ff 7 (nn 1 (tt 6 (nn 6 (tt 4 (ff 1 (nn 1 (ff 4 [])))))))))))).map (fun r => (r.1, r.2.2.2)) = some (LV.v (V1.one (At.bool (0 == 0 && (0 == 0 && (0 == 0 && true)) && (0 == 0 && true)))), [(decide (v1 ≥ -2000000), false), (decide (v1 ≥ -2000000), false), (decide (v1 ≥ -2000000), false), (decide (v1 ≥ -2000000), false), (!decide (v0 ≤ 2000000), false), (decide (v0 ≥ -2000000), true), (decide (v0 ≥ -2000000), true), (decide (v0 ≥ -2000000), true), (decide (v0 ≥ -2000000), true), (decide (v1 < -2000000), true), (decide (v1 < -2000000), true), (decide (v1 < -2000000), true), (decide (v1 < -2000000), true), (decide (v1 < -2000000), true), (decide (v1 < -2000000), true), (decide (v0 > 2000000), false), (decide (v0 < -2000000), false), (decide (v0 < -2000000), false), (decide (v0 < -2000000), false), (decide (v0 < -2000000), false), (decide (v0 < -2000000), false), (decide (v0 < -2000000), false), (decide (v3 > 1000000), false), (decide (v3 < 1), false), (decide (v3 < 1), false), (decide (v3 < 1), false), (decide (v3 < 1), false), (decide (v3 < 1), false)]) := by kernel_rfl
theorem rC3 (t v0 v1 v2 v3 v4 v5 v6 v7 : Int) : (runF Try.prog S54 Zl 4000 8 [.v (.agg [.int .i64 t, .int .i64 v0, .int .i64 v1, .int .i64 v2, .int .i64 v3, .int .i64 v4, .int .i64 v5, .int .i64 v6, .int .i64 v7])] [] 0 (nn 1 (ff 6 (nn 1 (ff 7 (nn 1 (ff 6 (tt 1 (nn 5 (tt 4 (ff 1 (nn 1 (tt 5 []))))))))))))).map (fun r => (r.1, r.2.2.2)) = some (LV.v (V1.one (At.bool (0 == 0 && (0 == 0 && (0 == 0 && true)) && (0 == 0 && true)))), [(!decide (v1 ≤ 2000000), true), (decide (v1 ≥ -2000000), true), (decide (v1 ≥ -2000000), true), (decide (v1 ≥ -2000000), true), (decide (v1 ≥ -2000000), true), (!decide (v0 ≤ 2000000), false), (decide (v0 ≥ -2000000), true), (decide (v0 ≥ -2000000), true), (decide (v0 ≥ -2000000), true), (decide (v0 ≥ -2000000), true), (decide (v1 > 2000000), true), (decide (v1 < -2000000), false), (decide (v1 < -2000000), false), (decide (v1 < -2000000), false), (decide (v1 < -2000000), false), (decide (v1 < -2000000), false), (decide (v1 < -2000000), false), (decide (v0 > 2000000), false), (decide (v0 < -2000000), false), (decide (v0 < -2000000), false), (decide (v0 < -2000000), false), (decide (v0 < -2000000), false), (decide (v0 < -2000000), false), (decide (v0 < -2000000), false), (decide (v3 > 1000000), false), (decide (v3 < 1), false), (decide (v3 < 1), false), (decide (v3 < 1), false), (decide (v3 < 1), false), (decide (v3 < 1), false)]) := by kernel_rfl
theorem rC4 (t v0 v1 v2 v3 v4 v5 v6 v7 : Int) : (runF Try.prog S54 Zl 4000 8 [.v (.agg [.int .i64 t, .int .i64 v0, .int .i64 v1, .int .i64 v2, .int .i64 v3, .int .i64 v4, .int .i64 v5, .int .i64 v6, .int .i64 v7])] [] 0 (nn 1 (ff 6 (nn 1 (ff 7 (nn 1 (ff 7 (nn 1 (tt 6 (nn 6 (tt 4 (ff 1 (nn 1 (tt 4 (ff 1 (nn 1 (ff 4 []))))))))))))))))).map (fun r => (r.1, r.2.2.2)) = some (LV.v (V1.one (At.bool (0 == 0 && (0 == 0 && (0 == 0 && true)) && (0 == 0 && true)))), [(decide (v2 ≥ -2000000), false), (decide (v2 ≥ -2000000), false), (decide (v2 ≥ -2000000), false), (decide (v2 ≥ -2000000), false), (!decide (v1 ≤ 2000000), false), (decide (v1 ≥ -2000000), true), (decide (v1 ≥ -2000000), true), (decide (v1 ≥ -2000000), true), (decide (v1 ≥ -2000000), true), (!decide (v0 ≤ 2000000), false), (decide (v0 ≥ -2000000), true), (decide (v0 ≥ -2000000), true), (decide (v0 ≥ -2000000), true), (decide (v0 ≥ -2000000), true), (decide (v2 < -2000000), true), (decide (v2 < -2000000), true), (decide (v2 < -2000000), true), (decide (v2 < -2000000), true), (decide (v2 < -2000000), true), (decide (v2 < -2000000), true), (decide (v1 > 2000000), false), (decide (v1 < -2000000), false), (decide (v1 < -2000000), false), (decide (v1 < -2000000), false), (decide (v1 < -2000000), false), (decide (v1 < -2000000), false), (decide (v1 < -2000000), false), (decide (v0 > 2000000), false), (decide (v0 < -2000000), false), (decide (v0 < -2000000), false), (decide (v0 < -2000000), false), (decide (v0 < -2000000), false), (decide (v0 < -2000000), false), (decide (v0 < -2000000), false), (decide (v3 > 1000000), false), (decide (v3 < 1), false), (decide (v3 < 1), false), (decide (v3 < 1), false), (decide (v3 < 1), false), (decide (v3 < 1), false)]) := by kernel_rfl
theorem rC5 (t v0 v1 v2 v3 v4 v5 v6 v7 : Int) : (runF Try.prog S54 Zl 4000 8 [.v (.agg [.int .i64 t, .int .i64 v0, .int .i64 v1, .int .i64 v2, .int .i64 v3, .int .i64 v4, .int .i64 v5, .int .i64 v6, .int .i64 v7])] [] 0 (nn 1 (ff 6 (nn 1 (ff 7 (nn 1 (ff 7 (nn 1 (ff 6 (tt 1 (nn 5 (tt 4 (ff 1 (nn 1 (tt 4 (ff 1 (nn 1 (tt 5 [])))))))))))))))))).map (fun r => (r.1, r.2.2.2)) = some (LV.v (V1.one (At.bool (0 == 0 && (0 == 0 && (0 == 0 && true)) && (0 == 0 && true)))), [(!decide (v2 ≤ 2000000), true), (decide (v2 ≥ -2000000), true), (decide (v2 ≥ -2000000), true), (decide (v2 ≥ -2000000), true), (decide (v2 ≥ -2000000), true), (!decide (v1 ≤ 2000000), false), (decide (v1 ≥ -2000000), true), (decide (v1 ≥ -2000000), true), (decide (v1 ≥ -2000000), true), (decide (v1 ≥ -2000000), true), (!decide (v0 ≤ 2000000), false), (decide (v0 ≥ -2000000), true), (decide (v0 ≥ -2000000), true), (decide (v0 ≥ -2000000), true), (decide (v0 ≥ -2000000), true), (decide (v2 > 2000000), true), (decide (v2 < -2000000), false), (decide (v2 < -2000000), false), (decide (v2 < -2000000), false), (decide (v2 < -2000000), false), (decide (v2 < -2000000), false), (decide (v2 < -2000000), false), (decide (v1 > 2000000), false), (decide (v1 < -2000000), false), (decide (v1 < -2000000), false), (decide (v1 < -2000000), false), (decide (v1 < -2000000), false), (decide (v1 < -2000000), false), (decide (v1 < -2000000), false), (decide (v0 > 2000000), false), (decide (v0 < -2000000), false), (decide (v0 < -2000000), false), (decide (v0 < -2000000), false), (decide (v0 < -2000000), false), (decide (v0 < -2000000), false), (decide (v0 < -2000000), false), (decide (v3 > 1000000), false), (decide (v3 < 1), false), (decide (v3 < 1), false), (decide (v3 < 1), false), (decide (v3 < 1), false), (decide (v3 < 1), false)]) := by kernel_rfl
theorem rD (t v0 v1 v2 v3 v4 v5 v6 v7 : Int) : (runF Try.prog S54 Zl 4000 8 [.v (.agg [.int .i64 t, .int .i64 v0, .int .i64 v1, .int .i64 v2, .int .i64 v3, .int .i64 v4, .int .i64 v5, .int .i64 v6, .int .i64 v7])] [] 0 (nn 1 (ff 6 (nn 1 (ff 7 (nn 1 (ff 7 (nn 1 (ff 7 (nn 6 (tt 4 (ff 1 (nn 1 (tt 4 (ff 1 (nn 1 (tt 4 (ff 1 (nn 1 (tt 4 (ff 1 (nn 13 (tt 6 []))))))))))))))))))))))).map (fun r => (r.1, r.2.2.2)) = some (LV.v (V1.one (At.bool !(false || mulDivH v0 1073741824 1000000 || mulDivH v1 1073741824 1000000 || mulDivH v2 1073741824 1000000))), [(mulDivV v0 1073741824 1000000 == mulDivV v0 1073741824 1000000 && (mulDivV v1 1073741824 1000000 == mulDivV v1 1073741824 1000000 && (mulDivV v2 1073741824 1000000 == mulDivV v2 1073741824 1000000 && true)) && (clampV (mulDivV (wr IntKind.i64 (v3 * v3)) 17592186044416 1000000000000) 1 72057594037927936 == clampV (mulDivV (wr IntKind.i64 (v3 * v3)) 17592186044416 1000000000000) 1 72057594037927936 && true), true), (mulDivV v0 1073741824 1000000 == mulDivV v0 1073741824 1000000 && (mulDivV v1 1073741824 1000000 == mulDivV v1 1073741824 1000000 && (mulDivV v2 1073741824 1000000 == mulDivV v2 1073741824 1000000 && true)) && (clampV (mulDivV (wr IntKind.i64 (v3 * v3)) 17592186044416 1000000000000) 1 72057594037927936 == clampV (mulDivV (wr IntKind.i64 (v3 * v3)) 17592186044416 1000000000000) 1 72057594037927936 && true), true), (mulDivV v0 1073741824 1000000 == mulDivV v0 1073741824 1000000 && (mulDivV v1 1073741824 1000000 == mulDivV v1 1073741824 1000000 && (mulDivV v2 1073741824 1000000 == mulDivV v2 1073741824 1000000 && true)) && (clampV (mulDivV (wr IntKind.i64 (v3 * v3)) 17592186044416 1000000000000) 1 72057594037927936 == clampV (mulDivV (wr IntKind.i64 (v3 * v3)) 17592186044416 1000000000000) 1 72057594037927936 && true), true), (mulDivV v0 1073741824 1000000 == mulDivV v0 1073741824 1000000 && (mulDivV v1 1073741824 1000000 == mulDivV v1 1073741824 1000000 && (mulDivV v2 1073741824 1000000 == mulDivV v2 1073741824 1000000 && true)) && (clampV (mulDivV (wr IntKind.i64 (v3 * v3)) 17592186044416 1000000000000) 1 72057594037927936 == clampV (mulDivV (wr IntKind.i64 (v3 * v3)) 17592186044416 1000000000000) 1 72057594037927936 && true), true), (mulDivV v0 1073741824 1000000 == mulDivV v0 1073741824 1000000 && (mulDivV v1 1073741824 1000000 == mulDivV v1 1073741824 1000000 && (mulDivV v2 1073741824 1000000 == mulDivV v2 1073741824 1000000 && true)) && (clampV (mulDivV (wr IntKind.i64 (v3 * v3)) 17592186044416 1000000000000) 1 72057594037927936 == clampV (mulDivV (wr IntKind.i64 (v3 * v3)) 17592186044416 1000000000000) 1 72057594037927936 && true), true), (mulDivV v0 1073741824 1000000 == mulDivV v0 1073741824 1000000 && (mulDivV v1 1073741824 1000000 == mulDivV v1 1073741824 1000000 && (mulDivV v2 1073741824 1000000 == mulDivV v2 1073741824 1000000 && true)) && (clampV (mulDivV (wr IntKind.i64 (v3 * v3)) 17592186044416 1000000000000) 1 72057594037927936 == clampV (mulDivV (wr IntKind.i64 (v3 * v3)) 17592186044416 1000000000000) 1 72057594037927936 && true), true), (!decide (v3 ≤ 1000000), false), (decide (v3 ≥ 1), true), (decide (v3 ≥ 1), true), (decide (v3 ≥ 1), true), (decide (v3 ≥ 1), true), (!decide (v2 ≤ 2000000), false), (decide (v2 ≥ -2000000), true), (decide (v2 ≥ -2000000), true), (decide (v2 ≥ -2000000), true), (decide (v2 ≥ -2000000), true), (!decide (v1 ≤ 2000000), false), (decide (v1 ≥ -2000000), true), (decide (v1 ≥ -2000000), true), (decide (v1 ≥ -2000000), true), (decide (v1 ≥ -2000000), true), (!decide (v0 ≤ 2000000), false), (decide (v0 ≥ -2000000), true), (decide (v0 ≥ -2000000), true), (decide (v0 ≥ -2000000), true), (decide (v0 ≥ -2000000), true), (decide (v2 > 2000000), false), (decide (v2 < -2000000), false), (decide (v2 < -2000000), false), (decide (v2 < -2000000), false), (decide (v2 < -2000000), false), (decide (v2 < -2000000), false), (decide (v2 < -2000000), false), (decide (v1 > 2000000), false), (decide (v1 < -2000000), false), (decide (v1 < -2000000), false), (decide (v1 < -2000000), false), (decide (v1 < -2000000), false), (decide (v1 < -2000000), false), (decide (v1 < -2000000), false), (decide (v0 > 2000000), false), (decide (v0 < -2000000), false), (decide (v0 < -2000000), false), (decide (v0 < -2000000), false), (decide (v0 < -2000000), false), (decide (v0 < -2000000), false), (decide (v0 < -2000000), false), (decide (v3 > 1000000), false), (decide (v3 < 1), false), (decide (v3 < 1), false), (decide (v3 < 1), false), (decide (v3 < 1), false), (decide (v3 < 1), false)]) := by kernel_rfl

theorem md_f {v : Int} (h0 : -2000000 ≤ v) (h1 : v ≤ 2000000) : mulDivH v 1073741824 1000000 = false := by
  have hb : ∀ a : Int, 0 ≤ a → a ≤ 2147483648000000 → 0 ≤ quoR a 1000000 ∧ quoR a 1000000 ≤ 2147483648000001 := by
    intro a a0 a1
    have := quo_bd (a := a) (b := 1000000) a0 (by omega)
    have h2 := Int.ediv_nonneg (a := a) (b := 1000000) a0 (by omega)
    unfold quoR at *
    split <;> omega
  have ha : 0 ≤ absV (v * 1073741824) ∧ absV (v * 1073741824) ≤ 2147483648000000 := by unfold absV; split <;> omega
  have hq := hb _ ha.1 ha.2
  unfold mulDivH byH
  rw [sat_in (a := v) (by omega) (by omega), show satV 1073741824 = 1073741824 by decide, show satV 1000000 = 1000000 by decide, satH_in (a := v) (by omega) (by omega), show satH 1073741824 = false by decide, show satH 1000000 = false by decide]
  have hd : satH (divV (v * 1073741824) 1000000) = false := by
    unfold divV
    rw [show absV 1000000 = 1000000 by decide]
    generalize quoR (absV (v * 1073741824)) 1000000 = q at *
    unfold sgn
    split <;> exact satH_in (by omega) (by omega)
  rw [hd]; rfl
theorem lawMagReads (t v0 v1 v2 v3 v4 v5 v6 v7 : Int) (w : World) :
    Calls Try.prog 8 ([.v (.agg [.int .i64 t, .int .i64 v0, .int .i64 v1, .int .i64 v2, .int .i64 v3, .int .i64 v4, .int .i64 v5, .int .i64 v6, .int .i64 v7])].map (LV.den E0)).toArray w fun e w' => e = .returned (.bool true) ∧ Below w.heap.size w w' := by
  by_cases a1 : v3 < 1
  · by_cases g0 : v0 < -2000000
    · exact law_true sound54 (rA0 t v0 v1 v2 v3 v4 v5 v6 v7) (by first | rfl | simp) (by simp; omega) rfl w
    by_cases g1 : 2000000 < v0
    · exact law_true sound54 (rA1 t v0 v1 v2 v3 v4 v5 v6 v7) (by first | rfl | simp) (by simp; omega) rfl w
    by_cases g2 : v1 < -2000000
    · exact law_true sound54 (rA2 t v0 v1 v2 v3 v4 v5 v6 v7) (by first | rfl | simp) (by simp; omega) rfl w
    by_cases g3 : 2000000 < v1
    · exact law_true sound54 (rA3 t v0 v1 v2 v3 v4 v5 v6 v7) (by first | rfl | simp) (by simp; omega) rfl w
    by_cases g4 : v2 < -2000000
    · exact law_true sound54 (rA4 t v0 v1 v2 v3 v4 v5 v6 v7) (by first | rfl | simp) (by simp; omega) rfl w
    by_cases g5 : 2000000 < v2
    · exact law_true sound54 (rA5 t v0 v1 v2 v3 v4 v5 v6 v7) (by first | rfl | simp) (by simp; omega) rfl w
    exact law_true sound54 (rA6 t v0 v1 v2 v3 v4 v5 v6 v7) (by first | rfl | simp) (by simp; omega) rfl w
  by_cases a2 : 1000000 < v3
  · by_cases g0 : v0 < -2000000
    · exact law_true sound54 (rB0 t v0 v1 v2 v3 v4 v5 v6 v7) (by first | rfl | simp) (by simp; omega) rfl w
    by_cases g1 : 2000000 < v0
    · exact law_true sound54 (rB1 t v0 v1 v2 v3 v4 v5 v6 v7) (by first | rfl | simp) (by simp; omega) rfl w
    by_cases g2 : v1 < -2000000
    · exact law_true sound54 (rB2 t v0 v1 v2 v3 v4 v5 v6 v7) (by first | rfl | simp) (by simp; omega) rfl w
    by_cases g3 : 2000000 < v1
    · exact law_true sound54 (rB3 t v0 v1 v2 v3 v4 v5 v6 v7) (by first | rfl | simp) (by simp; omega) rfl w
    by_cases g4 : v2 < -2000000
    · exact law_true sound54 (rB4 t v0 v1 v2 v3 v4 v5 v6 v7) (by first | rfl | simp) (by simp; omega) rfl w
    by_cases g5 : 2000000 < v2
    · exact law_true sound54 (rB5 t v0 v1 v2 v3 v4 v5 v6 v7) (by first | rfl | simp) (by simp; omega) rfl w
    exact law_true sound54 (rB7 t v0 v1 v2 v3 v4 v5 v6 v7) (by first | rfl | simp) (by simp; omega) rfl w
  by_cases g0 : v0 < -2000000
  · exact law_true sound54 (rC0 t v0 v1 v2 v3 v4 v5 v6 v7) (by first | rfl | simp) (by simp; omega) rfl w
  by_cases g1 : 2000000 < v0
  · exact law_true sound54 (rC1 t v0 v1 v2 v3 v4 v5 v6 v7) (by first | rfl | simp) (by simp; omega) rfl w
  by_cases g2 : v1 < -2000000
  · exact law_true sound54 (rC2 t v0 v1 v2 v3 v4 v5 v6 v7) (by first | rfl | simp) (by simp; omega) rfl w
  by_cases g3 : 2000000 < v1
  · exact law_true sound54 (rC3 t v0 v1 v2 v3 v4 v5 v6 v7) (by first | rfl | simp) (by simp; omega) rfl w
  by_cases g4 : v2 < -2000000
  · exact law_true sound54 (rC4 t v0 v1 v2 v3 v4 v5 v6 v7) (by first | rfl | simp) (by simp; omega) rfl w
  by_cases g5 : 2000000 < v2
  · exact law_true sound54 (rC5 t v0 v1 v2 v3 v4 v5 v6 v7) (by first | rfl | simp) (by simp; omega) rfl w
  exact law_true sound54 (rD t v0 v1 v2 v3 v4 v5 v6 v7) (by rw [md_f (by omega) (by omega), md_f (by omega) (by omega), md_f (by omega) (by omega)]; rfl) (by simp; omega) rfl w

end Go.Proofs.Ytmcbgolflbkndaa

/- Opening an array of numbers that a law is handed (the seventh form's data). -/
namespace Go.Lr
open Go.ChangeShapes Go.WideShapes Go.ChangeAt Go.RowKit

section
variable {H : Type} {enc : TypeId × Value → H} {P : Program} {k e : TypeId} {W : World} {base : Nat} {sp : Nat → Bool} {held : Bool}

theorem mapM_ints (he : P.underlying e = some (.int .i64)) {m : Nat} {cs : List Value} : ∀ (L : List Nat) (xs : List (DataW H × List MemPlace)),
    L.mapM (fun i => DataW.trod enc P W base sp held m e ((cs.drop (i * 1)).take 1)) = some xs →
    ∃ zs : List Int, zs.length = L.length ∧ xs = zs.map (fun z => (.lit (.int .i64 z), [])) ∧ (∀ z ∈ zs, (Lit.int .i64 z).wf = true) ∧
      (∀ (j : Nat) (h : j < L.length) (h' : j < zs.length), (cs.drop (L[j] * 1)).take 1 = [.int .i64 zs[j]]) ∧
      ∀ (W' : World) (base' : Nat) (sp' : Nat → Bool), L.mapM (fun i => DataW.trod enc P W' base' sp' held m e ((cs.drop (i * 1)).take 1)) = some xs
  | [], xs, h => by
    simp at h
    subst h
    exact ⟨[], rfl, rfl, by simp, by simp, fun _ _ _ => rfl⟩
  | i :: L, xs, h => by
    rw [List.mapM_cons] at h
    simp only [bind, Option.bind_eq_some_iff, pure, Option.some.injEq] at h
    obtain ⟨y, hy, ys, hys, rfl⟩ := h
    obtain ⟨zs, h1, rfl, h2, h3, h4⟩ := mapM_ints he L ys hys
    obtain ⟨a, ea, rfl, wa⟩ := DataW.trod_int he hy
    refine ⟨a :: zs, by simp [h1], rfl, ?_, ?_, fun W' base' sp' => ?_⟩
    · intro z hz
      rcases List.mem_cons.1 hz with rfl | hz
      · exact wa
      · exact h2 z hz
    · intro j hj hj'
      cases j with
      | zero => exact ea
      | succ j => exact h3 j (by simpa using hj) (by simpa using hj')
    · rw [List.mapM_cons, h4 W' base' sp']
      have hw : DataW.trod enc P W' base' sp' held m e ((cs.drop (i * 1)).take 1) = some (.lit (.int .i64 a), []) := by
        rw [ea] at hy ⊢
        cases m with
        | zero => simp [DataW.trod] at hy
        | succ m => simp [DataW.trod, he, wa]
      rw [hw]
      rfl

theorem open_arr {n : Nat} (hk : P.underlying k = some (.array n e)) (he : P.underlying e = some (.int .i64)) (hc : P.cellsOf k = n) (hce : P.cellsOf e = 1) {r : Reach} {b0 : Nat} {v : Value} {d : DataW H} {ps : List MemPlace}
    (hval : Value.okWide P W r b0 k v) (hd : DataW.Trod enc P W base sp held k v d ps) :
    ∃ zs : List Int, zs.length = n ∧ v = .agg (zs.map (Value.int .i64)).toArray ∧ ps = [] ∧ (∀ z ∈ zs, (Lit.int .i64 z).wf = true) ∧ ∀ (W' : World) (base' : Nat) (sp' : Nat → Bool), DataW.Trod enc P W' base' sp' held k v d [] := by
  simp only [Value.okWide, hk] at hval
  obtain ⟨cs, rfl, hs, -⟩ := hval
  rw [hc] at hs
  obtain ⟨fuel, hf⟩ := hd
  cases fuel with
  | zero => simp [DataW.trod] at hf
  | succ m =>
    rw [DataW.trod_step] at hf
    unfold DataW.trodStep at hf
    simp only [hk, Value.cells, hc, hce] at hf
    have hl : cs.toList.length = n := by simpa using hs
    rw [if_pos hl] at hf
    simp only [Option.map_eq_some_iff] at hf
    obtain ⟨ys, hy, e1⟩ := hf
    obtain ⟨zs, h1, rfl, h2, h3, h4⟩ := mapM_ints he _ ys hy
    rw [List.length_range] at h1
    simp only [Prod.mk.injEq] at e1
    have hcs : cs.toList = zs.map (Value.int .i64) := by
      refine List.ext_getElem (by simp [hl, h1]) fun j hj hj' => ?_
      have h := h3 j (by simpa using (show j < n by omega)) (by omega)
      rw [List.getElem_range, Nat.mul_one] at h
      have h5 : ((cs.toList.drop j).take 1)[0]? = some (Value.int .i64 zs[j]) := by rw [h]; rfl
      rw [List.getElem?_take, if_pos (by decide), List.getElem?_drop, Nat.add_zero, List.getElem?_eq_getElem hj] at h5
      simpa using h5
    refine ⟨zs, h1, by rw [← hcs], by rw [← e1.2]; simp [List.flatMap_eq_nil_iff], h2, fun W' base' sp' => ⟨m + 1, ?_⟩⟩
    rw [DataW.trod_step]
    unfold DataW.trodStep
    simp only [hk, Value.cells, hc, hce]
    rw [if_pos hl, h4 W' base' sp']
    simp only [Option.map_some, Option.some.injEq, Prod.mk.injEq]
    exact ⟨e1.1, by simp [List.flatMap_eq_nil_iff]⟩
end
end Go.Lr

/- Opening a struct of numbers that a law is handed. -/
namespace Go.Lr
open Go.ChangeShapes Go.WideShapes Go.ChangeAt Go.RowKit

section
variable {H : Type} {enc : TypeId × Value → H} {P : Program} {held : Bool}

/-- A type of so many whole numbers of 64 bits, one after the other. -/
def PlainT (enc : TypeId × Value → H) (P : Program) (held : Bool) (t : TypeId) (n : Nat) : Prop :=
  P.cellsOf t = n ∧ ∀ (W : World) (base : Nat) (sp : Nat → Bool) (m : Nat) (cs : List Value) (x : DataW H × List MemPlace), DataW.trod enc P W base sp held m t cs = some x →
    ∃ zs : List Int, zs.length = n ∧ cs = zs.map (Value.int .i64) ∧ x.2 = [] ∧ (∀ z ∈ zs, (Lit.int .i64 z).wf = true) ∧ ∀ (W' : World) (base' : Nat) (sp' : Nat → Bool), DataW.trod enc P W' base' sp' held m t cs = some x

theorem plain_int {t : TypeId} (ht : P.underlying t = some (.int .i64)) (hc : P.cellsOf t = 1) : PlainT enc P held t 1 := by
  refine ⟨hc, fun W base sp m cs x h => ?_⟩
  obtain ⟨a, rfl, rfl, wa⟩ := DataW.trod_int ht h
  refine ⟨[a], rfl, rfl, rfl, by simpa using wa, fun W' base' sp' => ?_⟩
  cases m with
  | zero => simp [DataW.trod] at h
  | succ m => simp [DataW.trod, ht, wa]

theorem plain_struct2 {t : TypeId} {fs : Array Field} {f0 f1 : Field} {n0 n1 : Nat} (ht : P.underlying t = some (.struct fs)) (hfs : fs.toList = [f0, f1]) (h0 : f0.offset = 0) (h1 : f1.offset = n0)
    (p0 : PlainT enc P held f0.type n0) (p1 : PlainT enc P held f1.type n1) (hc : P.cellsOf t = n0 + n1) : PlainT enc P held t (n0 + n1) := by
  refine ⟨hc, fun W base sp m cs x h => ?_⟩
  obtain ⟨c0, q0⟩ := p0
  obtain ⟨c1, q1⟩ := p1
  cases m with
  | zero => simp [DataW.trod] at h
  | succ m =>
    rw [DataW.trod_step] at h
    unfold DataW.trodStep at h
    simp only [ht] at h
    split at h
    · rename_i hl
      rw [hc] at hl
      simp only [hfs, List.mapM_cons, List.mapM_nil, bind, pure, h0, h1, c0, c1, List.drop_zero, Option.map_eq_some_iff, Option.bind_eq_some_iff, Option.some.injEq] at h
      obtain ⟨xs, ⟨y0, g0, ys, ⟨y1, g1, r, rfl, rfl⟩, rfl⟩, rfl⟩ := h
      obtain ⟨z0, a1, a2, a3, a4, a5⟩ := q0 _ _ _ _ _ _ g0
      obtain ⟨z1, b1, b2, b3, b4, b5⟩ := q1 _ _ _ _ _ _ g1
      have hcs : cs = (z0 ++ z1).map (Value.int .i64) := by
        rw [List.map_append, ← a2, ← b2, List.take_of_length_le (l := cs.drop n0) (by rw [List.length_drop]; omega), List.take_append_drop]
      refine ⟨z0 ++ z1, by simp [a1, b1], hcs, by simp [a3, b3], ?_, fun W' base' sp' => ?_⟩
      · intro z hz
        rcases List.mem_append.1 hz with hz | hz
        · exact a4 z hz
        · exact b4 z hz
      · rw [DataW.trod_step]
        unfold DataW.trodStep
        simp only [ht]
        rw [if_pos (by rw [hc]; exact hl)]
        simp only [hfs, List.mapM_cons, List.mapM_nil, bind, pure, h0, h1, c0, c1, List.drop_zero, a5 W' base' sp', b5 W' base' sp', Option.bind_some, Option.map_some]
    · cases h

/-- The two fields of a struct: their types, their places. -/
def twoF (P : Program) (t : TypeId) : Option (TypeId × Nat × TypeId × Nat) :=
  match P.underlying t with
  | some (.struct fs) => match fs.toList with
    | [f0, f1] => some (f0.type, f0.offset, f1.type, f1.offset)
    | _ => none
  | _ => none
theorem plain_two {t t0 t1 : TypeId} {n0 n1 : Nat} (h : twoF P t = some (t0, 0, t1, n0)) (p0 : PlainT enc P held t0 n0) (p1 : PlainT enc P held t1 n1) (hc : P.cellsOf t = n0 + n1) : PlainT enc P held t (n0 + n1) := by
  unfold twoF at h
  split at h
  · rename_i fs hu
    split at h
    · rename_i f0 f1 hl
      simp only [Option.some.injEq, Prod.mk.injEq] at h
      obtain ⟨rfl, h0, rfl, h1⟩ := h
      exact plain_struct2 hu hl h0 h1 p0 p1 hc
    · cases h
  · cases h
def isStruct (P : Program) (t : TypeId) : Bool :=
  match P.underlying t with
  | some (.struct _) => true
  | _ => false
theorem isStruct_spec {t : TypeId} (h : isStruct P t = true) : ∃ fs, P.underlying t = some (.struct fs) := by
  unfold isStruct at h
  split at h
  · rename_i fs hu; exact ⟨fs, hu⟩
  · cases h

theorem open_plain {t : TypeId} {n : Nat} (hs : isStruct P t = true) (hp : PlainT enc P held t n) {W : World} {base : Nat} {sp : Nat → Bool} {r : Reach} {b0 : Nat} {v : Value} {d : DataW H} {ps : List MemPlace}
    (hval : Value.okWide P W r b0 t v) (hd : DataW.Trod enc P W base sp held t v d ps) :
    ∃ zs : List Int, zs.length = n ∧ v = .agg (zs.map (Value.int .i64)).toArray ∧ ps = [] ∧ (∀ z ∈ zs, (Lit.int .i64 z).wf = true) ∧ ∀ (W' : World) (base' : Nat) (sp' : Nat → Bool), DataW.Trod enc P W' base' sp' held t v d [] := by
  obtain ⟨fs, ht⟩ := isStruct_spec hs
  simp only [Value.okWide, ht] at hval
  obtain ⟨cs, rfl, hsz, -⟩ := hval
  obtain ⟨fuel, hf⟩ := hd
  obtain ⟨zs, h1, h2, h3, h4, h5⟩ := hp.2 _ _ _ _ _ _ hf
  simp only [Value.cells] at h2 h5
  simp only at h3
  subst h3
  exact ⟨zs, h1, by rw [← h2], rfl, h4, fun W' base' sp' => ⟨fuel, h5 W' base' sp'⟩⟩
end
end Go.Lr

/- Opening an array of numbers that lies in a struct that a law is handed. -/
namespace Go.Lr
open Go.ChangeShapes Go.WideShapes Go.ChangeAt Go.RowKit

section
variable {H : Type} {enc : TypeId × Value → H} {P : Program} {held : Bool}

theorem plain_arr {t e : TypeId} {n : Nat} (hk : P.underlying t = some (.array n e)) (he : P.underlying e = some (.int .i64)) (hc : P.cellsOf t = n) (hce : P.cellsOf e = 1) : PlainT enc P held t n := by
  refine ⟨hc, fun W base sp m cs x h => ?_⟩
  cases m with
  | zero => simp [DataW.trod] at h
  | succ m =>
    rw [DataW.trod_step] at h
    unfold DataW.trodStep at h
    simp only [hk, hc, hce] at h
    split at h
    · rename_i hl
      simp only [Option.map_eq_some_iff] at h
      obtain ⟨ys, hy, e1⟩ := h
      obtain ⟨zs, h1, rfl, h2, h3, h4⟩ := mapM_ints he _ ys hy
      rw [List.length_range] at h1
      have hcs : cs = zs.map (Value.int .i64) := by
        refine List.ext_getElem (by simp [hl, h1]) fun j hj hj' => ?_
        have h := h3 j (by simpa using (show j < n by omega)) (by omega)
        rw [List.getElem_range, Nat.mul_one] at h
        have h5 : ((cs.drop j).take 1)[0]? = some (Value.int .i64 zs[j]) := by rw [h]; rfl
        rw [List.getElem?_take, if_pos (by decide), List.getElem?_drop, Nat.add_zero, List.getElem?_eq_getElem hj] at h5
        simpa using h5
      refine ⟨zs, h1, hcs, by rw [← e1]; simp [List.flatMap_eq_nil_iff], h2, fun W' base' sp' => ?_⟩
      rw [DataW.trod_step]
      unfold DataW.trodStep
      simp only [hk, hc, hce]
      rw [if_pos hl, h4 W' base' sp']
      simp only [Option.map_some, Option.some.injEq]
      exact e1
    · cases h
end
end Go.Lr
