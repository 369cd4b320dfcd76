/- Joined texts. What each part proves stands ahead of it; no condition. -/
import Derived.Test.YtnabopepomjncaaLrM2
import Derived.Test.YtnabopepomjncaaLrLenBits
import Derived.Test.YtnabopepomjncaaLrM1

/- wide: Mul, Round, Shift, by every path of their runs (printed by contract.py). -/
namespace Go.Proofs.Ytnabopepomjncaa
open Go.Lr

theorem wmulR1 (a b : Int) : (runF Try.prog S6 Zl 2000 53 [.v (.one (.int .i64 a)), .v (.one (.int .i64 b))] [] 0 []).map (fun r => (r.1, r.2.2.2)) = some (LV.v (V1.agg [At.int IntKind.i64 (w64 (wHi (sgn (!decide (a < 0) == decide (b < 0)) (wVal (absV a * absV b / 18446744073709551616) (absV a * absV b % 18446744073709551616))))), At.int IntKind.u64 (wLo (sgn (!decide (a < 0) == decide (b < 0)) (wVal (absV a * absV b / 18446744073709551616) (absV a * absV b % 18446744073709551616))))]), [(isU (absV a * absV b / 18446744073709551616), true), (isU (absV a * absV b % 18446744073709551616), true), (isU (absV a), true), (isU (absV b), true), (isI b, true), (isI a, true)]) := by kernel_rfl
def wmulT (a b : Int) : Option (LV × List (Bool × Bool)) := some (LV.v (V1.agg [At.int IntKind.i64 (w64 (wHi (sgn (!decide (a < 0) == decide (b < 0)) (wVal (absV a * absV b / 18446744073709551616) (absV a * absV b % 18446744073709551616))))), At.int IntKind.u64 (wLo (sgn (!decide (a < 0) == decide (b < 0)) (wVal (absV a * absV b / 18446744073709551616) (absV a * absV b % 18446744073709551616))))]), [(isU (absV a * absV b / 18446744073709551616), true), (isU (absV a * absV b % 18446744073709551616), true), (isU (absV a), true), (isU (absV b), true), (isI b, true), (isI a, true)])
def wmulF : List LV → Option (LV × List (Bool × Bool))
  | [.v (.one (.int .i64 a)), .v (.one (.int .i64 b))] => wmulT a b
  | _ => none
theorem sumwmul : SumOK Try.prog 53 (pureSum wmulF) := by
  refine pureSum_run (z := Zl) sound6 (own_of sound6 Try.func53 (by kernel_rfl)) fun args v cs hF hc => ?_
  unfold wmulF at hF
  split at hF
  · rename_i a b
    unfold wmulT at hF
    cases hF
    exact ⟨2000, [], _, wmulR1 a b, ae_cons (hd_of (hc)) (ae_cons (hd_of (tl_of (hc))) (ae_cons (hd_of (tl_of (tl_of (hc)))) (ae_cons (hd_of (tl_of (tl_of (tl_of (hc))))) (ae_cons (hd_of (tl_of (tl_of (tl_of (tl_of (hc)))))) (ae_cons (hd_of (tl_of (tl_of (tl_of (tl_of (tl_of (hc))))))) (ae_nil))))))⟩
  · cases hF

theorem wroundR1 (x y s : Int) : (runF Try.prog S6 Zl 2000 55 [.v (.agg [.int .i64 x, .int .u64 y]), .v (.one (.int .i64 s))] [] 0 [some true, some true, some true, none]).map (fun r => (r.1, r.2.2.2)) = some (LV.tup [V1.one (At.int IntKind.i64 0), V1.one (At.bool false)], [(decide (s < 0), true), (decide (s < 0), true), (decide (s < 0), true)]) := by kernel_rfl
theorem wroundR2 (x y s : Int) : (runF Try.prog S6 Zl 2000 55 [.v (.agg [.int .i64 x, .int .u64 y]), .v (.one (.int .i64 s))] [] 0 [some false, some false, some false, some true]).map (fun r => (r.1, r.2.2.2)) = some (LV.tup [V1.one (At.int IntKind.i64 0), V1.one (At.bool false)], [(decide (s > 126), true), (decide (s < 0), false), (decide (s < 0), false), (decide (s < 0), false)]) := by kernel_rfl
theorem wroundR3 (x y s : Int) : (runF Try.prog S6 Zl 2000 55 [.v (.agg [.int .i64 x, .int .u64 y]), .v (.one (.int .i64 s))] [] 0 [some false, some false, some false, some false, some true]).map (fun r => (r.1, r.2.2.2)) = some (LV.tup [V1.one (At.int IntKind.i64 (if isI (sgn (decide (wVal x y < 0)) (wVal (wHi (wVal (wHi ((wVal (wHi (absV (wVal x y))) (wLo (absV (wVal x y))) + wVal (wHi (wVal 0 1 * pow2 (wr IntKind.i64 (s - 1)).toNat % 340282366920938463463374607431768211456)) (wLo (wVal 0 1 * pow2 (wr IntKind.i64 (s - 1)).toNat % 340282366920938463463374607431768211456))) % 340282366920938463463374607431768211456)) (wLo ((wVal (wHi (absV (wVal x y))) (wLo (absV (wVal x y))) + wVal (wHi (wVal 0 1 * pow2 (wr IntKind.i64 (s - 1)).toNat % 340282366920938463463374607431768211456)) (wLo (wVal 0 1 * pow2 (wr IntKind.i64 (s - 1)).toNat % 340282366920938463463374607431768211456))) % 340282366920938463463374607431768211456)) / pow2 s.toNat)) (wLo (wVal (wHi ((wVal (wHi (absV (wVal x y))) (wLo (absV (wVal x y))) + wVal (wHi (wVal 0 1 * pow2 (wr IntKind.i64 (s - 1)).toNat % 340282366920938463463374607431768211456)) (wLo (wVal 0 1 * pow2 (wr IntKind.i64 (s - 1)).toNat % 340282366920938463463374607431768211456))) % 340282366920938463463374607431768211456)) (wLo ((wVal (wHi (absV (wVal x y))) (wLo (absV (wVal x y))) + wVal (wHi (wVal 0 1 * pow2 (wr IntKind.i64 (s - 1)).toNat % 340282366920938463463374607431768211456)) (wLo (wVal 0 1 * pow2 (wr IntKind.i64 (s - 1)).toNat % 340282366920938463463374607431768211456))) % 340282366920938463463374607431768211456)) / pow2 s.toNat)))) = true then sgn (decide (wVal x y < 0)) (wVal (wHi (wVal (wHi ((wVal (wHi (absV (wVal x y))) (wLo (absV (wVal x y))) + wVal (wHi (wVal 0 1 * pow2 (wr IntKind.i64 (s - 1)).toNat % 340282366920938463463374607431768211456)) (wLo (wVal 0 1 * pow2 (wr IntKind.i64 (s - 1)).toNat % 340282366920938463463374607431768211456))) % 340282366920938463463374607431768211456)) (wLo ((wVal (wHi (absV (wVal x y))) (wLo (absV (wVal x y))) + wVal (wHi (wVal 0 1 * pow2 (wr IntKind.i64 (s - 1)).toNat % 340282366920938463463374607431768211456)) (wLo (wVal 0 1 * pow2 (wr IntKind.i64 (s - 1)).toNat % 340282366920938463463374607431768211456))) % 340282366920938463463374607431768211456)) / pow2 s.toNat)) (wLo (wVal (wHi ((wVal (wHi (absV (wVal x y))) (wLo (absV (wVal x y))) + wVal (wHi (wVal 0 1 * pow2 (wr IntKind.i64 (s - 1)).toNat % 340282366920938463463374607431768211456)) (wLo (wVal 0 1 * pow2 (wr IntKind.i64 (s - 1)).toNat % 340282366920938463463374607431768211456))) % 340282366920938463463374607431768211456)) (wLo ((wVal (wHi (absV (wVal x y))) (wLo (absV (wVal x y))) + wVal (wHi (wVal 0 1 * pow2 (wr IntKind.i64 (s - 1)).toNat % 340282366920938463463374607431768211456)) (wLo (wVal 0 1 * pow2 (wr IntKind.i64 (s - 1)).toNat % 340282366920938463463374607431768211456))) % 340282366920938463463374607431768211456)) / pow2 s.toNat))) else 0)), V1.one (At.bool (isI (sgn (decide (wVal x y < 0)) (wVal (wHi (wVal (wHi ((wVal (wHi (absV (wVal x y))) (wLo (absV (wVal x y))) + wVal (wHi (wVal 0 1 * pow2 (wr IntKind.i64 (s - 1)).toNat % 340282366920938463463374607431768211456)) (wLo (wVal 0 1 * pow2 (wr IntKind.i64 (s - 1)).toNat % 340282366920938463463374607431768211456))) % 340282366920938463463374607431768211456)) (wLo ((wVal (wHi (absV (wVal x y))) (wLo (absV (wVal x y))) + wVal (wHi (wVal 0 1 * pow2 (wr IntKind.i64 (s - 1)).toNat % 340282366920938463463374607431768211456)) (wLo (wVal 0 1 * pow2 (wr IntKind.i64 (s - 1)).toNat % 340282366920938463463374607431768211456))) % 340282366920938463463374607431768211456)) / pow2 s.toNat)) (wLo (wVal (wHi ((wVal (wHi (absV (wVal x y))) (wLo (absV (wVal x y))) + wVal (wHi (wVal 0 1 * pow2 (wr IntKind.i64 (s - 1)).toNat % 340282366920938463463374607431768211456)) (wLo (wVal 0 1 * pow2 (wr IntKind.i64 (s - 1)).toNat % 340282366920938463463374607431768211456))) % 340282366920938463463374607431768211456)) (wLo ((wVal (wHi (absV (wVal x y))) (wLo (absV (wVal x y))) + wVal (wHi (wVal 0 1 * pow2 (wr IntKind.i64 (s - 1)).toNat % 340282366920938463463374607431768211456)) (wLo (wVal 0 1 * pow2 (wr IntKind.i64 (s - 1)).toNat % 340282366920938463463374607431768211456))) % 340282366920938463463374607431768211456)) / pow2 s.toNat))))))], [(isU (wHi (wVal (wHi ((wVal (wHi (absV (wVal x y))) (wLo (absV (wVal x y))) + wVal (wHi (wVal 0 1 * pow2 (wr IntKind.i64 (s - 1)).toNat % 340282366920938463463374607431768211456)) (wLo (wVal 0 1 * pow2 (wr IntKind.i64 (s - 1)).toNat % 340282366920938463463374607431768211456))) % 340282366920938463463374607431768211456)) (wLo ((wVal (wHi (absV (wVal x y))) (wLo (absV (wVal x y))) + wVal (wHi (wVal 0 1 * pow2 (wr IntKind.i64 (s - 1)).toNat % 340282366920938463463374607431768211456)) (wLo (wVal 0 1 * pow2 (wr IntKind.i64 (s - 1)).toNat % 340282366920938463463374607431768211456))) % 340282366920938463463374607431768211456)) / pow2 s.toNat)), true), (isU (wLo (wVal (wHi ((wVal (wHi (absV (wVal x y))) (wLo (absV (wVal x y))) + wVal (wHi (wVal 0 1 * pow2 (wr IntKind.i64 (s - 1)).toNat % 340282366920938463463374607431768211456)) (wLo (wVal 0 1 * pow2 (wr IntKind.i64 (s - 1)).toNat % 340282366920938463463374607431768211456))) % 340282366920938463463374607431768211456)) (wLo ((wVal (wHi (absV (wVal x y))) (wLo (absV (wVal x y))) + wVal (wHi (wVal 0 1 * pow2 (wr IntKind.i64 (s - 1)).toNat % 340282366920938463463374607431768211456)) (wLo (wVal 0 1 * pow2 (wr IntKind.i64 (s - 1)).toNat % 340282366920938463463374607431768211456))) % 340282366920938463463374607431768211456)) / pow2 s.toNat)), true), (isU (wHi ((wVal (wHi (absV (wVal x y))) (wLo (absV (wVal x y))) + wVal (wHi (wVal 0 1 * pow2 (wr IntKind.i64 (s - 1)).toNat % 340282366920938463463374607431768211456)) (wLo (wVal 0 1 * pow2 (wr IntKind.i64 (s - 1)).toNat % 340282366920938463463374607431768211456))) % 340282366920938463463374607431768211456)), true), (isU (wLo ((wVal (wHi (absV (wVal x y))) (wLo (absV (wVal x y))) + wVal (wHi (wVal 0 1 * pow2 (wr IntKind.i64 (s - 1)).toNat % 340282366920938463463374607431768211456)) (wLo (wVal 0 1 * pow2 (wr IntKind.i64 (s - 1)).toNat % 340282366920938463463374607431768211456))) % 340282366920938463463374607431768211456)), true), (decide (0 ≤ s) && decide (s < 128), true), (isU (wHi (absV (wVal x y))), true), (isU (wLo (absV (wVal x y))), true), (isU (wHi (wVal 0 1 * pow2 (wr IntKind.i64 (s - 1)).toNat % 340282366920938463463374607431768211456)), true), (isU (wLo (wVal 0 1 * pow2 (wr IntKind.i64 (s - 1)).toNat % 340282366920938463463374607431768211456)), true), (isU 0, true), (isU 1, true), (decide (0 ≤ wr IntKind.i64 (s - 1)) && decide (wr IntKind.i64 (s - 1) < 128), true), (decide (s > 0), true), (isI x, true), (isU y, true), (decide (s > 126), false), (decide (s < 0), false), (decide (s < 0), false), (decide (s < 0), false)]) := by kernel_rfl
theorem wroundR4 (x y s : Int) : (runF Try.prog S6 Zl 2000 55 [.v (.agg [.int .i64 x, .int .u64 y]), .v (.one (.int .i64 s))] [] 0 [some false, some false, some false, some false, some false]).map (fun r => (r.1, r.2.2.2)) = some (LV.tup [V1.one (At.int IntKind.i64 (if isI (sgn (decide (wVal x y < 0)) (wVal (wHi (wVal (wHi (absV (wVal x y))) (wLo (absV (wVal x y))) / pow2 s.toNat)) (wLo (wVal (wHi (absV (wVal x y))) (wLo (absV (wVal x y))) / pow2 s.toNat)))) = true then sgn (decide (wVal x y < 0)) (wVal (wHi (wVal (wHi (absV (wVal x y))) (wLo (absV (wVal x y))) / pow2 s.toNat)) (wLo (wVal (wHi (absV (wVal x y))) (wLo (absV (wVal x y))) / pow2 s.toNat))) else 0)), V1.one (At.bool (isI (sgn (decide (wVal x y < 0)) (wVal (wHi (wVal (wHi (absV (wVal x y))) (wLo (absV (wVal x y))) / pow2 s.toNat)) (wLo (wVal (wHi (absV (wVal x y))) (wLo (absV (wVal x y))) / pow2 s.toNat))))))], [(isU (wHi (wVal (wHi (absV (wVal x y))) (wLo (absV (wVal x y))) / pow2 s.toNat)), true), (isU (wLo (wVal (wHi (absV (wVal x y))) (wLo (absV (wVal x y))) / pow2 s.toNat)), true), (isU (wHi (absV (wVal x y))), true), (isU (wLo (absV (wVal x y))), true), (decide (0 ≤ s) && decide (s < 128), true), (decide (s > 0), false), (isI x, true), (isU y, true), (decide (s > 126), false), (decide (s < 0), false), (decide (s < 0), false), (decide (s < 0), false)]) := by kernel_rfl
def wroundT (x y s : Int) : Option (LV × List (Bool × Bool)) := 
  bif (decide (s < 0)) then some (LV.tup [V1.one (At.int IntKind.i64 0), V1.one (At.bool false)], [])
  else 
    bif (decide (s > 126)) then some (LV.tup [V1.one (At.int IntKind.i64 0), V1.one (At.bool false)], [])
    else 
      bif (decide (s > 0)) then some (LV.tup [V1.one (At.int IntKind.i64 (if isI (sgn (decide (wVal x y < 0)) (wVal (wHi (wVal (wHi ((wVal (wHi (absV (wVal x y))) (wLo (absV (wVal x y))) + wVal (wHi (wVal 0 1 * pow2 (wr IntKind.i64 (s - 1)).toNat % 340282366920938463463374607431768211456)) (wLo (wVal 0 1 * pow2 (wr IntKind.i64 (s - 1)).toNat % 340282366920938463463374607431768211456))) % 340282366920938463463374607431768211456)) (wLo ((wVal (wHi (absV (wVal x y))) (wLo (absV (wVal x y))) + wVal (wHi (wVal 0 1 * pow2 (wr IntKind.i64 (s - 1)).toNat % 340282366920938463463374607431768211456)) (wLo (wVal 0 1 * pow2 (wr IntKind.i64 (s - 1)).toNat % 340282366920938463463374607431768211456))) % 340282366920938463463374607431768211456)) / pow2 s.toNat)) (wLo (wVal (wHi ((wVal (wHi (absV (wVal x y))) (wLo (absV (wVal x y))) + wVal (wHi (wVal 0 1 * pow2 (wr IntKind.i64 (s - 1)).toNat % 340282366920938463463374607431768211456)) (wLo (wVal 0 1 * pow2 (wr IntKind.i64 (s - 1)).toNat % 340282366920938463463374607431768211456))) % 340282366920938463463374607431768211456)) (wLo ((wVal (wHi (absV (wVal x y))) (wLo (absV (wVal x y))) + wVal (wHi (wVal 0 1 * pow2 (wr IntKind.i64 (s - 1)).toNat % 340282366920938463463374607431768211456)) (wLo (wVal 0 1 * pow2 (wr IntKind.i64 (s - 1)).toNat % 340282366920938463463374607431768211456))) % 340282366920938463463374607431768211456)) / pow2 s.toNat)))) = true then sgn (decide (wVal x y < 0)) (wVal (wHi (wVal (wHi ((wVal (wHi (absV (wVal x y))) (wLo (absV (wVal x y))) + wVal (wHi (wVal 0 1 * pow2 (wr IntKind.i64 (s - 1)).toNat % 340282366920938463463374607431768211456)) (wLo (wVal 0 1 * pow2 (wr IntKind.i64 (s - 1)).toNat % 340282366920938463463374607431768211456))) % 340282366920938463463374607431768211456)) (wLo ((wVal (wHi (absV (wVal x y))) (wLo (absV (wVal x y))) + wVal (wHi (wVal 0 1 * pow2 (wr IntKind.i64 (s - 1)).toNat % 340282366920938463463374607431768211456)) (wLo (wVal 0 1 * pow2 (wr IntKind.i64 (s - 1)).toNat % 340282366920938463463374607431768211456))) % 340282366920938463463374607431768211456)) / pow2 s.toNat)) (wLo (wVal (wHi ((wVal (wHi (absV (wVal x y))) (wLo (absV (wVal x y))) + wVal (wHi (wVal 0 1 * pow2 (wr IntKind.i64 (s - 1)).toNat % 340282366920938463463374607431768211456)) (wLo (wVal 0 1 * pow2 (wr IntKind.i64 (s - 1)).toNat % 340282366920938463463374607431768211456))) % 340282366920938463463374607431768211456)) (wLo ((wVal (wHi (absV (wVal x y))) (wLo (absV (wVal x y))) + wVal (wHi (wVal 0 1 * pow2 (wr IntKind.i64 (s - 1)).toNat % 340282366920938463463374607431768211456)) (wLo (wVal 0 1 * pow2 (wr IntKind.i64 (s - 1)).toNat % 340282366920938463463374607431768211456))) % 340282366920938463463374607431768211456)) / pow2 s.toNat))) else 0)), V1.one (At.bool (isI (sgn (decide (wVal x y < 0)) (wVal (wHi (wVal (wHi ((wVal (wHi (absV (wVal x y))) (wLo (absV (wVal x y))) + wVal (wHi (wVal 0 1 * pow2 (wr IntKind.i64 (s - 1)).toNat % 340282366920938463463374607431768211456)) (wLo (wVal 0 1 * pow2 (wr IntKind.i64 (s - 1)).toNat % 340282366920938463463374607431768211456))) % 340282366920938463463374607431768211456)) (wLo ((wVal (wHi (absV (wVal x y))) (wLo (absV (wVal x y))) + wVal (wHi (wVal 0 1 * pow2 (wr IntKind.i64 (s - 1)).toNat % 340282366920938463463374607431768211456)) (wLo (wVal 0 1 * pow2 (wr IntKind.i64 (s - 1)).toNat % 340282366920938463463374607431768211456))) % 340282366920938463463374607431768211456)) / pow2 s.toNat)) (wLo (wVal (wHi ((wVal (wHi (absV (wVal x y))) (wLo (absV (wVal x y))) + wVal (wHi (wVal 0 1 * pow2 (wr IntKind.i64 (s - 1)).toNat % 340282366920938463463374607431768211456)) (wLo (wVal 0 1 * pow2 (wr IntKind.i64 (s - 1)).toNat % 340282366920938463463374607431768211456))) % 340282366920938463463374607431768211456)) (wLo ((wVal (wHi (absV (wVal x y))) (wLo (absV (wVal x y))) + wVal (wHi (wVal 0 1 * pow2 (wr IntKind.i64 (s - 1)).toNat % 340282366920938463463374607431768211456)) (wLo (wVal 0 1 * pow2 (wr IntKind.i64 (s - 1)).toNat % 340282366920938463463374607431768211456))) % 340282366920938463463374607431768211456)) / pow2 s.toNat))))))], [(isU (wHi (wVal (wHi ((wVal (wHi (absV (wVal x y))) (wLo (absV (wVal x y))) + wVal (wHi (wVal 0 1 * pow2 (wr IntKind.i64 (s - 1)).toNat % 340282366920938463463374607431768211456)) (wLo (wVal 0 1 * pow2 (wr IntKind.i64 (s - 1)).toNat % 340282366920938463463374607431768211456))) % 340282366920938463463374607431768211456)) (wLo ((wVal (wHi (absV (wVal x y))) (wLo (absV (wVal x y))) + wVal (wHi (wVal 0 1 * pow2 (wr IntKind.i64 (s - 1)).toNat % 340282366920938463463374607431768211456)) (wLo (wVal 0 1 * pow2 (wr IntKind.i64 (s - 1)).toNat % 340282366920938463463374607431768211456))) % 340282366920938463463374607431768211456)) / pow2 s.toNat)), true), (isU (wLo (wVal (wHi ((wVal (wHi (absV (wVal x y))) (wLo (absV (wVal x y))) + wVal (wHi (wVal 0 1 * pow2 (wr IntKind.i64 (s - 1)).toNat % 340282366920938463463374607431768211456)) (wLo (wVal 0 1 * pow2 (wr IntKind.i64 (s - 1)).toNat % 340282366920938463463374607431768211456))) % 340282366920938463463374607431768211456)) (wLo ((wVal (wHi (absV (wVal x y))) (wLo (absV (wVal x y))) + wVal (wHi (wVal 0 1 * pow2 (wr IntKind.i64 (s - 1)).toNat % 340282366920938463463374607431768211456)) (wLo (wVal 0 1 * pow2 (wr IntKind.i64 (s - 1)).toNat % 340282366920938463463374607431768211456))) % 340282366920938463463374607431768211456)) / pow2 s.toNat)), true), (isU (wHi ((wVal (wHi (absV (wVal x y))) (wLo (absV (wVal x y))) + wVal (wHi (wVal 0 1 * pow2 (wr IntKind.i64 (s - 1)).toNat % 340282366920938463463374607431768211456)) (wLo (wVal 0 1 * pow2 (wr IntKind.i64 (s - 1)).toNat % 340282366920938463463374607431768211456))) % 340282366920938463463374607431768211456)), true), (isU (wLo ((wVal (wHi (absV (wVal x y))) (wLo (absV (wVal x y))) + wVal (wHi (wVal 0 1 * pow2 (wr IntKind.i64 (s - 1)).toNat % 340282366920938463463374607431768211456)) (wLo (wVal 0 1 * pow2 (wr IntKind.i64 (s - 1)).toNat % 340282366920938463463374607431768211456))) % 340282366920938463463374607431768211456)), true), (decide (0 ≤ s) && decide (s < 128), true), (isU (wHi (absV (wVal x y))), true), (isU (wLo (absV (wVal x y))), true), (isU (wHi (wVal 0 1 * pow2 (wr IntKind.i64 (s - 1)).toNat % 340282366920938463463374607431768211456)), true), (isU (wLo (wVal 0 1 * pow2 (wr IntKind.i64 (s - 1)).toNat % 340282366920938463463374607431768211456)), true), (isU 0, true), (isU 1, true), (decide (0 ≤ wr IntKind.i64 (s - 1)) && decide (wr IntKind.i64 (s - 1) < 128), true), (isI x, true), (isU y, true)])
      else some (LV.tup [V1.one (At.int IntKind.i64 (if isI (sgn (decide (wVal x y < 0)) (wVal (wHi (wVal (wHi (absV (wVal x y))) (wLo (absV (wVal x y))) / pow2 s.toNat)) (wLo (wVal (wHi (absV (wVal x y))) (wLo (absV (wVal x y))) / pow2 s.toNat)))) = true then sgn (decide (wVal x y < 0)) (wVal (wHi (wVal (wHi (absV (wVal x y))) (wLo (absV (wVal x y))) / pow2 s.toNat)) (wLo (wVal (wHi (absV (wVal x y))) (wLo (absV (wVal x y))) / pow2 s.toNat))) else 0)), V1.one (At.bool (isI (sgn (decide (wVal x y < 0)) (wVal (wHi (wVal (wHi (absV (wVal x y))) (wLo (absV (wVal x y))) / pow2 s.toNat)) (wLo (wVal (wHi (absV (wVal x y))) (wLo (absV (wVal x y))) / pow2 s.toNat))))))], [(isU (wHi (wVal (wHi (absV (wVal x y))) (wLo (absV (wVal x y))) / pow2 s.toNat)), true), (isU (wLo (wVal (wHi (absV (wVal x y))) (wLo (absV (wVal x y))) / pow2 s.toNat)), true), (isU (wHi (absV (wVal x y))), true), (isU (wLo (absV (wVal x y))), true), (decide (0 ≤ s) && decide (s < 128), true), (isI x, true), (isU y, true)])
def wroundF : List LV → Option (LV × List (Bool × Bool))
  | [.v (.agg [.int .i64 x, .int .u64 y]), .v (.one (.int .i64 s))] => wroundT x y s
  | _ => none
theorem sumwround : SumOK Try.prog 55 (pureSum wroundF) := by
  refine pureSum_run (z := Zl) sound6 (own_of sound6 Try.func55 (by kernel_rfl)) fun args v cs hF hc => ?_
  unfold wroundF at hF
  split at hF
  · rename_i x y s
    unfold wroundT at hF
    rcases bool_cases (decide (s < 0)) with h0 | h0
    · rw [cond_t h0] at hF
      cases hF
      exact ⟨2000, [some true, some true, some true, none], _, wroundR1 x y s, ae_cons (h0) (ae_cons (h0) (ae_cons (h0) (ae_nil)))⟩
    · rw [cond_f h0] at hF
      rcases bool_cases (decide (s > 126)) with h1 | h1
      · rw [cond_t h1] at hF
        cases hF
        exact ⟨2000, [some false, some false, some false, some true], _, wroundR2 x y s, ae_cons (h1) (ae_cons (h0) (ae_cons (h0) (ae_cons (h0) (ae_nil))))⟩
      · rw [cond_f h1] at hF
        rcases bool_cases (decide (s > 0)) with h2 | h2
        · rw [cond_t h2] at hF
          cases hF
          exact ⟨2000, [some false, some false, some false, some false, some true], _, wroundR3 x y s, ae_cons (hd_of (hc)) (ae_cons (hd_of (tl_of (hc))) (ae_cons (hd_of (tl_of (tl_of (hc)))) (ae_cons (hd_of (tl_of (tl_of (tl_of (hc))))) (ae_cons (hd_of (tl_of (tl_of (tl_of (tl_of (hc)))))) (ae_cons (hd_of (tl_of (tl_of (tl_of (tl_of (tl_of (hc))))))) (ae_cons (hd_of (tl_of (tl_of (tl_of (tl_of (tl_of (tl_of (hc)))))))) (ae_cons (hd_of (tl_of (tl_of (tl_of (tl_of (tl_of (tl_of (tl_of (hc))))))))) (ae_cons (hd_of (tl_of (tl_of (tl_of (tl_of (tl_of (tl_of (tl_of (tl_of (hc)))))))))) (ae_cons (hd_of (tl_of (tl_of (tl_of (tl_of (tl_of (tl_of (tl_of (tl_of (tl_of (hc))))))))))) (ae_cons (hd_of (tl_of (tl_of (tl_of (tl_of (tl_of (tl_of (tl_of (tl_of (tl_of (tl_of (hc)))))))))))) (ae_cons (hd_of (tl_of (tl_of (tl_of (tl_of (tl_of (tl_of (tl_of (tl_of (tl_of (tl_of (tl_of (hc))))))))))))) (ae_cons (h2) (ae_cons (hd_of (tl_of (tl_of (tl_of (tl_of (tl_of (tl_of (tl_of (tl_of (tl_of (tl_of (tl_of (tl_of (hc)))))))))))))) (ae_cons (hd_of (tl_of (tl_of (tl_of (tl_of (tl_of (tl_of (tl_of (tl_of (tl_of (tl_of (tl_of (tl_of (tl_of (hc))))))))))))))) (ae_cons (h1) (ae_cons (h0) (ae_cons (h0) (ae_cons (h0) (ae_nil)))))))))))))))))))⟩
        · rw [cond_f h2] at hF
          cases hF
          exact ⟨2000, [some false, some false, some false, some false, some false], _, wroundR4 x y s, ae_cons (hd_of (hc)) (ae_cons (hd_of (tl_of (hc))) (ae_cons (hd_of (tl_of (tl_of (hc)))) (ae_cons (hd_of (tl_of (tl_of (tl_of (hc))))) (ae_cons (hd_of (tl_of (tl_of (tl_of (tl_of (hc)))))) (ae_cons (h2) (ae_cons (hd_of (tl_of (tl_of (tl_of (tl_of (tl_of (hc))))))) (ae_cons (hd_of (tl_of (tl_of (tl_of (tl_of (tl_of (tl_of (hc)))))))) (ae_cons (h1) (ae_cons (h0) (ae_cons (h0) (ae_cons (h0) (ae_nil))))))))))))⟩
  · cases hF

theorem wshiftR1 (a s : Int) : (runF Try.prog S6 Zl 2000 63 [.v (.one (.int .i64 a)), .v (.one (.int .i64 s))] [] 0 [some true, some true, some true, none]).map (fun r => (r.1, r.2.2.2)) = some (LV.tup [V1.agg [At.int IntKind.i64 0, At.int IntKind.u64 0], V1.one (At.bool false)], [(decide (s < 0), true), (decide (s < 0), true), (decide (s < 0), true)]) := by kernel_rfl
theorem wshiftR2 (a s : Int) : (runF Try.prog S6 Zl 2000 63 [.v (.one (.int .i64 a)), .v (.one (.int .i64 s))] [] 0 [some false, some false, some false, some true]).map (fun r => (r.1, r.2.2.2)) = some (LV.tup [V1.agg [At.int IntKind.i64 0, At.int IntKind.u64 0], V1.one (At.bool false)], [(decide (s > 127), true), (decide (s < 0), false), (decide (s < 0), false), (decide (s < 0), false)]) := by kernel_rfl
theorem wshiftR3 (a s : Int) : (runF Try.prog S6 Zl 2000 63 [.v (.one (.int .i64 a)), .v (.one (.int .i64 s))] [] 0 [some false, some false, some false, some false, some true]).map (fun r => (r.1, r.2.2.2)) = some (LV.tup [V1.agg [At.int IntKind.i64 0, At.int IntKind.u64 0], V1.one (At.bool false)], [(!(wHi (wVal (wHi (wVal 0 (absV a) * pow2 s.toNat % 340282366920938463463374607431768211456)) (wLo (wVal 0 (absV a) * pow2 s.toNat % 340282366920938463463374607431768211456)) / pow2 s.toNat) == 0 && (wLo (wVal (wHi (wVal 0 (absV a) * pow2 s.toNat % 340282366920938463463374607431768211456)) (wLo (wVal 0 (absV a) * pow2 s.toNat % 340282366920938463463374607431768211456)) / pow2 s.toNat) == absV a && true)), true), (isU (wHi (wVal 0 (absV a) * pow2 s.toNat % 340282366920938463463374607431768211456)), true), (isU (wLo (wVal 0 (absV a) * pow2 s.toNat % 340282366920938463463374607431768211456)), true), (decide (0 ≤ s) && decide (s < 128), true), (isU 0, true), (isU (absV a), true), (decide (0 ≤ s) && decide (s < 128), true), (isI a, true), (decide (s > 127), false), (decide (s < 0), false), (decide (s < 0), false), (decide (s < 0), false)]) := by kernel_rfl
theorem wshiftR4 (a s : Int) : (runF Try.prog S6 Zl 2000 63 [.v (.one (.int .i64 a)), .v (.one (.int .i64 s))] [] 0 [some false, some false, some false, some false, some false, some true]).map (fun r => (r.1, r.2.2.2)) = some (LV.tup [V1.agg [At.int IntKind.i64 0, At.int IntKind.u64 0], V1.one (At.bool false)], [(!isW (sgn (decide (a < 0)) (wVal (wHi (wVal 0 (absV a) * pow2 s.toNat % 340282366920938463463374607431768211456)) (wLo (wVal 0 (absV a) * pow2 s.toNat % 340282366920938463463374607431768211456)))), true), (isU (wHi (wVal 0 (absV a) * pow2 s.toNat % 340282366920938463463374607431768211456)), true), (isU (wLo (wVal 0 (absV a) * pow2 s.toNat % 340282366920938463463374607431768211456)), true), (!(wHi (wVal (wHi (wVal 0 (absV a) * pow2 s.toNat % 340282366920938463463374607431768211456)) (wLo (wVal 0 (absV a) * pow2 s.toNat % 340282366920938463463374607431768211456)) / pow2 s.toNat) == 0 && (wLo (wVal (wHi (wVal 0 (absV a) * pow2 s.toNat % 340282366920938463463374607431768211456)) (wLo (wVal 0 (absV a) * pow2 s.toNat % 340282366920938463463374607431768211456)) / pow2 s.toNat) == absV a && true)), false), (isU (wHi (wVal 0 (absV a) * pow2 s.toNat % 340282366920938463463374607431768211456)), true), (isU (wLo (wVal 0 (absV a) * pow2 s.toNat % 340282366920938463463374607431768211456)), true), (decide (0 ≤ s) && decide (s < 128), true), (isU 0, true), (isU (absV a), true), (decide (0 ≤ s) && decide (s < 128), true), (isI a, true), (decide (s > 127), false), (decide (s < 0), false), (decide (s < 0), false), (decide (s < 0), false)]) := by kernel_rfl
theorem wshiftR5 (a s : Int) : (runF Try.prog S6 Zl 2000 63 [.v (.one (.int .i64 a)), .v (.one (.int .i64 s))] [] 0 [some false, some false, some false, some false, some false, some false]).map (fun r => (r.1, r.2.2.2)) = some (LV.tup [V1.agg [At.int IntKind.i64 (w64 (wHi (sgn (decide (a < 0)) (wVal (wHi (wVal 0 (absV a) * pow2 s.toNat % 340282366920938463463374607431768211456)) (wLo (wVal 0 (absV a) * pow2 s.toNat % 340282366920938463463374607431768211456)))))), At.int IntKind.u64 (wLo (sgn (decide (a < 0)) (wVal (wHi (wVal 0 (absV a) * pow2 s.toNat % 340282366920938463463374607431768211456)) (wLo (wVal 0 (absV a) * pow2 s.toNat % 340282366920938463463374607431768211456)))))], V1.one (At.bool true)], [(!isW (sgn (decide (a < 0)) (wVal (wHi (wVal 0 (absV a) * pow2 s.toNat % 340282366920938463463374607431768211456)) (wLo (wVal 0 (absV a) * pow2 s.toNat % 340282366920938463463374607431768211456)))), false), (isU (wHi (wVal 0 (absV a) * pow2 s.toNat % 340282366920938463463374607431768211456)), true), (isU (wLo (wVal 0 (absV a) * pow2 s.toNat % 340282366920938463463374607431768211456)), true), (!(wHi (wVal (wHi (wVal 0 (absV a) * pow2 s.toNat % 340282366920938463463374607431768211456)) (wLo (wVal 0 (absV a) * pow2 s.toNat % 340282366920938463463374607431768211456)) / pow2 s.toNat) == 0 && (wLo (wVal (wHi (wVal 0 (absV a) * pow2 s.toNat % 340282366920938463463374607431768211456)) (wLo (wVal 0 (absV a) * pow2 s.toNat % 340282366920938463463374607431768211456)) / pow2 s.toNat) == absV a && true)), false), (isU (wHi (wVal 0 (absV a) * pow2 s.toNat % 340282366920938463463374607431768211456)), true), (isU (wLo (wVal 0 (absV a) * pow2 s.toNat % 340282366920938463463374607431768211456)), true), (decide (0 ≤ s) && decide (s < 128), true), (isU 0, true), (isU (absV a), true), (decide (0 ≤ s) && decide (s < 128), true), (isI a, true), (decide (s > 127), false), (decide (s < 0), false), (decide (s < 0), false), (decide (s < 0), false)]) := by kernel_rfl
def wshiftT (a s : Int) : Option (LV × List (Bool × Bool)) := 
  bif (decide (s < 0)) then some (LV.tup [V1.agg [At.int IntKind.i64 0, At.int IntKind.u64 0], V1.one (At.bool false)], [])
  else 
    bif (decide (s > 127)) then some (LV.tup [V1.agg [At.int IntKind.i64 0, At.int IntKind.u64 0], V1.one (At.bool false)], [])
    else 
      bif (!(wHi (wVal (wHi (wVal 0 (absV a) * pow2 s.toNat % 340282366920938463463374607431768211456)) (wLo (wVal 0 (absV a) * pow2 s.toNat % 340282366920938463463374607431768211456)) / pow2 s.toNat) == 0 && (wLo (wVal (wHi (wVal 0 (absV a) * pow2 s.toNat % 340282366920938463463374607431768211456)) (wLo (wVal 0 (absV a) * pow2 s.toNat % 340282366920938463463374607431768211456)) / pow2 s.toNat) == absV a && true))) then some (LV.tup [V1.agg [At.int IntKind.i64 0, At.int IntKind.u64 0], V1.one (At.bool false)], [(isU (wHi (wVal 0 (absV a) * pow2 s.toNat % 340282366920938463463374607431768211456)), true), (isU (wLo (wVal 0 (absV a) * pow2 s.toNat % 340282366920938463463374607431768211456)), true), (decide (0 ≤ s) && decide (s < 128), true), (isU 0, true), (isU (absV a), true), (isI a, true)])
      else 
        bif (!isW (sgn (decide (a < 0)) (wVal (wHi (wVal 0 (absV a) * pow2 s.toNat % 340282366920938463463374607431768211456)) (wLo (wVal 0 (absV a) * pow2 s.toNat % 340282366920938463463374607431768211456))))) then some (LV.tup [V1.agg [At.int IntKind.i64 0, At.int IntKind.u64 0], V1.one (At.bool false)], [(isU (wHi (wVal 0 (absV a) * pow2 s.toNat % 340282366920938463463374607431768211456)), true), (isU (wLo (wVal 0 (absV a) * pow2 s.toNat % 340282366920938463463374607431768211456)), true), (decide (0 ≤ s) && decide (s < 128), true), (isU 0, true), (isU (absV a), true), (isI a, true)])
        else some (LV.tup [V1.agg [At.int IntKind.i64 (w64 (wHi (sgn (decide (a < 0)) (wVal (wHi (wVal 0 (absV a) * pow2 s.toNat % 340282366920938463463374607431768211456)) (wLo (wVal 0 (absV a) * pow2 s.toNat % 340282366920938463463374607431768211456)))))), At.int IntKind.u64 (wLo (sgn (decide (a < 0)) (wVal (wHi (wVal 0 (absV a) * pow2 s.toNat % 340282366920938463463374607431768211456)) (wLo (wVal 0 (absV a) * pow2 s.toNat % 340282366920938463463374607431768211456)))))], V1.one (At.bool true)], [(isU (wHi (wVal 0 (absV a) * pow2 s.toNat % 340282366920938463463374607431768211456)), true), (isU (wLo (wVal 0 (absV a) * pow2 s.toNat % 340282366920938463463374607431768211456)), true), (decide (0 ≤ s) && decide (s < 128), true), (isU 0, true), (isU (absV a), true), (isI a, true)])
def wshiftF : List LV → Option (LV × List (Bool × Bool))
  | [.v (.one (.int .i64 a)), .v (.one (.int .i64 s))] => wshiftT a s
  | _ => none
theorem sumwshift : SumOK Try.prog 63 (pureSum wshiftF) := by
  refine pureSum_run (z := Zl) sound6 (own_of sound6 Try.func63 (by kernel_rfl)) fun args v cs hF hc => ?_
  unfold wshiftF at hF
  split at hF
  · rename_i a s
    unfold wshiftT at hF
    rcases bool_cases (decide (s < 0)) with h0 | h0
    · rw [cond_t h0] at hF
      cases hF
      exact ⟨2000, [some true, some true, some true, none], _, wshiftR1 a s, ae_cons (h0) (ae_cons (h0) (ae_cons (h0) (ae_nil)))⟩
    · rw [cond_f h0] at hF
      rcases bool_cases (decide (s > 127)) with h1 | h1
      · rw [cond_t h1] at hF
        cases hF
        exact ⟨2000, [some false, some false, some false, some true], _, wshiftR2 a s, ae_cons (h1) (ae_cons (h0) (ae_cons (h0) (ae_cons (h0) (ae_nil))))⟩
      · rw [cond_f h1] at hF
        rcases bool_cases (!(wHi (wVal (wHi (wVal 0 (absV a) * pow2 s.toNat % 340282366920938463463374607431768211456)) (wLo (wVal 0 (absV a) * pow2 s.toNat % 340282366920938463463374607431768211456)) / pow2 s.toNat) == 0 && (wLo (wVal (wHi (wVal 0 (absV a) * pow2 s.toNat % 340282366920938463463374607431768211456)) (wLo (wVal 0 (absV a) * pow2 s.toNat % 340282366920938463463374607431768211456)) / pow2 s.toNat) == absV a && true))) with h2 | h2
        · rw [cond_t h2] at hF
          cases hF
          exact ⟨2000, [some false, some false, some false, some false, some true], _, wshiftR3 a s, ae_cons (h2) (ae_cons (hd_of (hc)) (ae_cons (hd_of (tl_of (hc))) (ae_cons (hd_of (tl_of (tl_of (hc)))) (ae_cons (hd_of (tl_of (tl_of (tl_of (hc))))) (ae_cons (hd_of (tl_of (tl_of (tl_of (tl_of (hc)))))) (ae_cons (hd_of (tl_of (tl_of (hc)))) (ae_cons (hd_of (tl_of (tl_of (tl_of (tl_of (tl_of (hc))))))) (ae_cons (h1) (ae_cons (h0) (ae_cons (h0) (ae_cons (h0) (ae_nil))))))))))))⟩
        · rw [cond_f h2] at hF
          rcases bool_cases (!isW (sgn (decide (a < 0)) (wVal (wHi (wVal 0 (absV a) * pow2 s.toNat % 340282366920938463463374607431768211456)) (wLo (wVal 0 (absV a) * pow2 s.toNat % 340282366920938463463374607431768211456))))) with h3 | h3
          · rw [cond_t h3] at hF
            cases hF
            exact ⟨2000, [some false, some false, some false, some false, some false, some true], _, wshiftR4 a s, ae_cons (h3) (ae_cons (hd_of (hc)) (ae_cons (hd_of (tl_of (hc))) (ae_cons (h2) (ae_cons (hd_of (hc)) (ae_cons (hd_of (tl_of (hc))) (ae_cons (hd_of (tl_of (tl_of (hc)))) (ae_cons (hd_of (tl_of (tl_of (tl_of (hc))))) (ae_cons (hd_of (tl_of (tl_of (tl_of (tl_of (hc)))))) (ae_cons (hd_of (tl_of (tl_of (hc)))) (ae_cons (hd_of (tl_of (tl_of (tl_of (tl_of (tl_of (hc))))))) (ae_cons (h1) (ae_cons (h0) (ae_cons (h0) (ae_cons (h0) (ae_nil)))))))))))))))⟩
          · rw [cond_f h3] at hF
            cases hF
            exact ⟨2000, [some false, some false, some false, some false, some false, some false], _, wshiftR5 a s, ae_cons (h3) (ae_cons (hd_of (hc)) (ae_cons (hd_of (tl_of (hc))) (ae_cons (h2) (ae_cons (hd_of (hc)) (ae_cons (hd_of (tl_of (hc))) (ae_cons (hd_of (tl_of (tl_of (hc)))) (ae_cons (hd_of (tl_of (tl_of (tl_of (hc))))) (ae_cons (hd_of (tl_of (tl_of (tl_of (tl_of (hc)))))) (ae_cons (hd_of (tl_of (tl_of (hc)))) (ae_cons (hd_of (tl_of (tl_of (tl_of (tl_of (tl_of (hc))))))) (ae_cons (h1) (ae_cons (h0) (ae_cons (h0) (ae_cons (h0) (ae_nil)))))))))))))))⟩
  · cases hF

end Go.Proofs.Ytnabopepomjncaa

/- wide: what Mul, Round, Shift come to, in numbers. -/
namespace Go.Proofs.Ytnabopepomjncaa
open Go.Lr
set_option linter.unusedVariables false
set_option linter.unusedSimpArgs false

theorem absI {a : Int} (h0 : -9223372036854775808 ≤ a) (h1 : a < 9223372036854775808) : absV a ≤ 9223372036854775808 := by unfold absV; split <;> omega
theorem isU_mk {x : Int} (h0 : 0 ≤ x) (h1 : x < 18446744073709551616) : isU x = true := isU_iff.2 ⟨h0, h1⟩
theorem isU_lo (v : Int) : isU (wLo v) = true := isU_iff.2 (wLo_in v)
theorem isU_hi {v : Int} (h0 : 0 ≤ v) (h1 : v < 340282366920938463463374607431768211456) : isU (wHi v) = true := isU_iff.2 (wHi_in v h0 h1)
theorem w64_hi {v : Int} (h0 : -170141183460469231731687303715884105728 ≤ v) (h1 : v < 170141183460469231731687303715884105728) : w64 (wHi v) = wHi v := w64_in (wHi_inI v h0 h1).1 (wHi_inI v h0 h1).2

def mulS : List LV → Option (LV × List (Bool × Bool))
  | [.v (.one (.int .i64 a)), .v (.one (.int .i64 b))] => some (.v (W1 (a * b)), [(isI a, true), (isI b, true)])
  | _ => none
theorem sumMul : SumOK Try.prog 53 (pureSum mulS) := by
  refine sumwmul.pure_re fun args v cs hF hc => ?_
  unfold mulS at hF
  split at hF
  · rename_i a b
    cases hF
    simp only [all_tt, isI_iff] at hc
    obtain ⟨⟨ha0, ha1⟩, ⟨hb0, hb1⟩, -⟩ := hc
    have pa := absI ha0 ha1
    have pb := absI hb0 hb1
    obtain ⟨q0, q1⟩ := prod_lt pa pb
    have na := absV_nn a
    have nb := absV_nn b
    have n0 := Int.mul_nonneg na nb
    have n1 : absV a * absV b ≤ 9223372036854775808 * 9223372036854775808 := Int.mul_le_mul pa pb nb (by omega)
    have e : wVal (absV a * absV b / 18446744073709551616) (absV a * absV b % 18446744073709551616) = absV a * absV b := wVal_mk _
    refine ⟨_, agg2 (a := w64 _) _ ?_ ?_, ?_⟩
    · rw [e, sgn_mul, w64_hi (by omega) (by omega)]
    · rw [e, sgn_mul]
    · simp only [all_tt, isU_iff, isI_iff]
      refine ⟨⟨?_, ?_⟩, ⟨?_, ?_⟩, ⟨?_, ?_⟩, ⟨?_, ?_⟩, ⟨?_, ?_⟩, ⟨?_, ?_⟩, ae_nil⟩ <;> omega
  · cases hF

theorem halfP_le (s : Nat) : 0 ≤ halfP s ∧ halfP s ≤ pow2 s := by
  cases s with
  | zero => exact ⟨by decide, by decide⟩
  | succ n => have := pow2_pos n; have := pow2_succ n; exact ⟨by show 0 ≤ pow2 n; omega, by show pow2 n ≤ pow2 (n + 1); omega⟩

def roundS : List LV → Option (LV × List (Bool × Bool))
  | [.v (.agg [.int .i64 x, .int .u64 y]), .v (.one (.int .i64 s))] =>
    some (.tup [.one (.int .i64 (if isI (rndV (wVal x y) s.toNat) = true then rndV (wVal x y) s.toNat else 0)), .one (.bool (isI (rndV (wVal x y) s.toNat)))], [(isI x, true), (isU y, true), (decide (0 ≤ s) && decide (s ≤ 126), true)])
  | _ => none
theorem sumRound : SumOK Try.prog 55 (pureSum roundS) := by
  refine sumwround.pure_re fun args v cs hF hc => ?_
  unfold roundS at hF
  split at hF
  · rename_i x y s
    cases hF
    simp only [all_tt, isI_iff, isU_iff, Bool.and_eq_true, decide_eq_true_eq] at hc
    obtain ⟨⟨hx0, hx1⟩, ⟨hy0, hy1⟩, ⟨hs0, hs1⟩, -⟩ := hc
    show ∃ cs', wroundT x y s = _ ∧ _
    have hv0 : -170141183460469231731687303715884105728 ≤ wVal x y := by unfold wVal; omega
    have hv1 : wVal x y < 170141183460469231731687303715884105728 := by unfold wVal; omega
    generalize hv : wVal x y = v at *
    have va : absV v ≤ 170141183460469231731687303715884105728 := by unfold absV; split <;> omega
    have va0 := absV_nn v
    unfold wroundT
    rw [cond_f (decide_eq_false (by omega)), cond_f (decide_eq_false (by omega))]
    simp only [wVal_mk, hv]
    have e01 : wVal 0 1 = 1 := rfl
    have hp := pow2_pos s.toNat
    by_cases h : s > 0
    · have hw : wr .i64 (s - 1) = s - 1 := w64s (by omega) (by omega)
      have hn : s.toNat = (s - 1).toNat + 1 := by omega
      have hp1 := pow2_pos (s - 1).toNat
      have hp2 : pow2 (s - 1).toNat ≤ 85070591730234615865843651857942052864 := pow2_le (n := 126) _ (by omega) (by decide)
      have e1 : 1 * pow2 (s - 1).toNat % 340282366920938463463374607431768211456 = pow2 (s - 1).toNat := by rw [Int.one_mul]; omega
      have e2 : (absV v + pow2 (s - 1).toNat) % 340282366920938463463374607431768211456 = absV v + pow2 (s - 1).toNat := by omega
      have q0 : 0 ≤ (absV v + pow2 (s - 1).toNat) / pow2 s.toNat := Int.ediv_nonneg (by omega) (by omega)
      have q1 : (absV v + pow2 (s - 1).toNat) / pow2 s.toNat ≤ absV v + pow2 (s - 1).toNat := Int.ediv_le_self _ (by omega)
      have er : rndV v s.toNat = sgn (decide (v < 0)) ((absV v + pow2 (s - 1).toNat) / pow2 s.toNat) := by
        unfold rndV; congr 2; rw [hn]; rfl
      rw [cond_t (decide_eq_true h)]
      simp only [hw, e01, e1, e2, ← er]
      refine ⟨_, rfl, ?_⟩
      simp only [all_tt, isU_iff, isI_iff, Bool.and_eq_true, decide_eq_true_eq]
      repeat' apply And.intro
      all_goals first | exact ae_nil | (unfold wHi; omega) | (unfold wLo; omega) | omega
    · have hs : s = 0 := by omega
      subst hs
      have e1 : pow2 (Int.toNat 0) = 1 := rfl
      have er : rndV v (Int.toNat 0) = sgn (decide (v < 0)) (absV v / pow2 (Int.toNat 0)) := by
        unfold rndV; congr 2; show absV v + 0 = _; omega
      rw [cond_f (decide_eq_false h)]
      simp only [← er]
      refine ⟨_, rfl, ?_⟩
      simp only [all_tt, isU_iff, isI_iff, Bool.and_eq_true, decide_eq_true_eq, e1, Int.ediv_one]
      repeat' apply And.intro
      all_goals first | exact ae_nil | (unfold wHi; omega) | (unfold wLo; omega) | omega
  · cases hF

def shiftS : List LV → Option (LV × List (Bool × Bool))
  | [.v (.one (.int .i64 a)), .v (.one (.int .i64 s))] =>
    some (.tup [W1 (a * pow2 s.toNat), .one (.bool true)], [(isI a, true), (decide (0 ≤ s) && decide (s ≤ 127), true), (decide (absV a * pow2 s.toNat < 170141183460469231731687303715884105728), true)])
  | _ => none
theorem sumShift : SumOK Try.prog 63 (pureSum shiftS) := by
  refine sumwshift.pure_re fun args v cs hF hc => ?_
  unfold shiftS at hF
  split at hF
  · rename_i a s
    cases hF
    simp only [all_tt, isI_iff, isU_iff, Bool.and_eq_true, decide_eq_true_eq] at hc
    obtain ⟨⟨ha0, ha1⟩, ⟨hs0, hs1⟩, hb, -⟩ := hc
    show ∃ cs', wshiftT a s = _ ∧ _
    have pa := absI ha0 ha1
    have na := absV_nn a
    have hp := pow2_pos s.toNat
    have n0 : 0 ≤ absV a * pow2 s.toNat := Int.mul_nonneg na (by omega)
    have e0 : wVal 0 (absV a) = absV a := by unfold wVal; omega
    have e1 : absV a * pow2 s.toNat % 340282366920938463463374607431768211456 = absV a * pow2 s.toNat := by omega
    have e2 : absV a * pow2 s.toNat / pow2 s.toNat = absV a := Int.mul_ediv_cancel _ (by omega)
    have e3 : sgn (decide (a < 0)) (absV a * pow2 s.toNat) = a * pow2 s.toNat := by
      by_cases h : a < 0
      · unfold sgn absV; simp [h]
        grind
      · unfold sgn absV; simp [h]
    have e4 : wHi (absV a) = 0 := by unfold wHi; omega
    have e5 : wLo (absV a) = absV a := by unfold wLo; omega
    have hR : -170141183460469231731687303715884105728 ≤ a * pow2 s.toNat ∧ a * pow2 s.toNat < 170141183460469231731687303715884105728 := by
      have h4 : absV (a * pow2 s.toNat) = absV a * pow2 s.toNat := by rw [absV_mul, absV_pos (a := pow2 s.toNat) (by omega)]
      have h5 : absV (a * pow2 s.toNat) < 170141183460469231731687303715884105728 := by rw [h4]; exact hb
      generalize a * pow2 s.toNat = t at h5 ⊢
      unfold absV at h5
      split at h5 <;> omega
    unfold wshiftT
    rw [cond_f (decide_eq_false (by omega)), cond_f (decide_eq_false (by omega))]
    simp only [wVal_mk, e0, e1, e2, e3, e4, e5]
    rw [cond_f (by simp), cond_f (by rw [isW_iff.2 ⟨hR.1, hR.2⟩]; rfl)]
    refine ⟨_, tup21 _ (w64_hi hR.1 hR.2) rfl rfl, ?_⟩
    simp only [all_tt, isU_iff, isI_iff, Bool.and_eq_true, decide_eq_true_eq]
    repeat' apply And.intro
    all_goals first | exact ae_nil | (unfold wHi; omega) | (unfold wLo; omega) | omega
  · cases hF

end Go.Proofs.Ytnabopepomjncaa

/- math/bits.Len64 and LeadingZeros64: what they come to. -/
namespace Go.Proofs.Ytnabopepomjncaa
open Go.Lr
theorem bitLenAux_spec : ∀ (f x : Nat), 0 < x → x < 2 ^ f → 1 ≤ Lib.bitLenAux f x ∧ Lib.bitLenAux f x ≤ f ∧ 2 ^ (Lib.bitLenAux f x - 1) ≤ x ∧ x < 2 ^ Lib.bitLenAux f x
  | 0, x, h0, h1 => by simp at h1; omega
  | f + 1, x, h0, h1 => by
    simp only [Lib.bitLenAux]
    rw [if_neg (by omega)]
    by_cases h : x / 2 = 0
    · have : x = 1 := by omega
      subst this
      have : Lib.bitLenAux f (1 / 2) = 0 := by cases f <;> simp [Lib.bitLenAux]
      rw [this]
      exact ⟨by omega, by omega, by decide, by decide⟩
    · obtain ⟨a, b, c, d⟩ := bitLenAux_spec f (x / 2) (by omega) (by rw [Nat.pow_succ] at h1; omega)
      generalize Lib.bitLenAux f (x / 2) = n at *
      refine ⟨by omega, by omega, ?_, ?_⟩
      · have e : 1 + n - 1 = (n - 1) + 1 := by omega
        rw [e, Nat.pow_succ]; omega
      · have e : 1 + n = n + 1 := by omega
        rw [e, Nat.pow_succ]; omega
theorem bitLen_spec (x : Nat) (h0 : 0 < x) (h1 : x < 2 ^ 64) : 1 ≤ Lib.bitLen x ∧ Lib.bitLen x ≤ 64 ∧ 2 ^ (Lib.bitLen x - 1) ≤ x ∧ x < 2 ^ Lib.bitLen x := bitLenAux_spec 64 x h0 h1

def len64S : List LV → Option (LV × List (Bool × Bool))
  | [.v (.one (.int .u64 x))] => some (.v (.one (.int .i64 (Lib.bitLen x.toNat))), [(isU x, true)])
  | _ => none
theorem sumLen64 : SumOK Try.prog 155 (pureSum len64S) := by
  refine pureSum_ok fun args v cs hF hc w => ?_
  unfold len64S at hF
  split at hF
  · rename_i x
    cases hF
    obtain ⟨h0, h1⟩ := isU_iff.1 (hc (isU x, true) (by simp))
    refine callOK_of (own_of sound0 Try.func155 (by kernel_rfl)) ((lenBits x w h0 (by omega)).mono fun e w' he => ⟨he.1, ?_⟩)
    rw [he.2]; exact .refl _ _
  · cases hF

def S7 : FuncId → Option SumK := more (more (more (more S6 155 (pureSum len64S)) 53 (pureSum mulS)) 55 (pureSum roundS)) 63 (pureSum shiftS)
theorem sound7 : Sound Try.prog S7 := (((sound6.more sumLen64).more sumMul).more sumRound).more sumShift

/-- How far a number must be shifted until its first bit is the 64th. -/
def lzV (x : Int) : Int := 64 - (Lib.bitLen x.toNat : Int)
def lzS : List LV → Option (LV × List (Bool × Bool))
  | [.v (.one (.int .u64 x))] => some (.v (.one (.int .i64 (lzV x))), [(isU x, true), (decide (0 < x), true)])
  | _ => none
theorem runLz (x : Int) : (runF Try.prog S7 Zl 200 153 [.v (.one (.int .u64 x))] [] 0 []).map (fun r => (r.1, r.2.2.2)) = some (.v (.one (.int .i64 (wr .i64 (64 - (Lib.bitLen x.toNat : Int))))), [(isU x, true)]) := by kernel_rfl
theorem lzV_spec {x : Int} (h0 : 0 < x) (h1 : x < 18446744073709551616) : 0 ≤ lzV x ∧ lzV x ≤ 63 ∧ 9223372036854775808 ≤ x * pow2 (lzV x).toNat ∧ x * pow2 (lzV x).toNat < 18446744073709551616 := by
  obtain ⟨a, b, c, d⟩ := bitLen_spec x.toNat (by omega) (by omega)
  unfold lzV
  generalize Lib.bitLen x.toNat = n at *
  have e : (64 - (n : Int)).toNat = 64 - n := by omega
  rw [e]
  refine ⟨by omega, by omega, ?_, ?_⟩
  · have h2 : pow2 (n - 1) * pow2 (64 - n) = 9223372036854775808 := by
      rw [← pow2_add, show n - 1 + (64 - n) = 63 by omega]; decide
    have h3 : pow2 (n - 1) ≤ x := by
      have : ((2 ^ (n - 1) : Nat) : Int) ≤ (x.toNat : Int) := Int.ofNat_le.2 c
      have e2 : pow2 (n - 1) = ((2 ^ (n - 1) : Nat) : Int) := rfl
      omega
    calc (9223372036854775808 : Int) = pow2 (n - 1) * pow2 (64 - n) := h2.symm
      _ ≤ x * pow2 (64 - n) := Int.mul_le_mul_of_nonneg_right h3 (Int.le_of_lt (pow2_pos _))
  · have h2 : pow2 n * pow2 (64 - n) = 18446744073709551616 := by
      rw [← pow2_add, show n + (64 - n) = 64 by omega]; decide
    have h3 : x < pow2 n := by
      have : (x.toNat : Int) < ((2 ^ n : Nat) : Int) := Int.ofNat_lt.2 d
      have e2 : pow2 n = ((2 ^ n : Nat) : Int) := rfl
      omega
    calc x * pow2 (64 - n) < pow2 n * pow2 (64 - n) := Int.mul_lt_mul_of_pos_right h3 (pow2_pos _)
      _ = 18446744073709551616 := h2
theorem sumLz : SumOK Try.prog 153 (pureSum lzS) := by
  refine pureSum_run (z := Zl) sound7 (own_of sound7 Try.func153 (by kernel_rfl)) fun args v cs hF hc => ?_
  unfold lzS at hF
  split at hF
  · rename_i x
    cases hF
    simp only [all_tt, isU_iff, decide_eq_true_eq] at hc
    obtain ⟨⟨h0, h1⟩, h2, -⟩ := hc
    have h := runLz x
    obtain ⟨a, b, _, _⟩ := lzV_spec h2 h1
    have e : wr .i64 (64 - (Lib.bitLen x.toNat : Int)) = lzV x := w64s (by unfold lzV at a; omega) (by unfold lzV at b; omega)
    rw [e] at h
    exact ⟨200, [], _, h, by simp only [all_tt, isU_iff]; exact ⟨⟨h0, h1⟩, ae_nil⟩⟩
  · cases hF
def S8 : FuncId → Option SumK := more S7 153 (pureSum lzS)
theorem sound8 : Sound Try.prog S8 := sound7.more sumLz
end Go.Proofs.Ytnabopepomjncaa

/- The local evaluator, piece by piece: from one known state to the next; loops by induction. -/
namespace Go.Lr
open Go.RowKit

/-- Slots whose values do not matter. -/
def deadT : Nat → (Nat → LV) → Tr
  | 0, _ => .nil
  | d + 1, f => .nd (f 0) (deadT d fun j => f (2 * j + 1)) (deadT d fun j => f (2 * j + 2))

theorem getT_deadT : ∀ (d : Nat) (f : Nat → LV) (t : Nat), getT (deadT d f) t = if t + 1 < 2 ^ d then f t else undefL
  | 0, f, t => by simp [deadT, getT_nil]
  | d + 1, f, 0 => by
    have : 0 < 2 ^ d := Nat.two_pow_pos d
    rw [if_pos (by rw [Nat.pow_succ]; omega)]; rfl
  | d + 1, f, t + 1 => by
    simp only [deadT]
    rw [getT_succ_nd]
    have hp : 2 ^ (d + 1) = 2 * 2 ^ d := by rw [Nat.pow_succ]; omega
    by_cases h : t % 2 = 0
    · rw [if_pos h, getT_deadT d]
      by_cases k : t / 2 + 1 < 2 ^ d
      · rw [if_pos k, if_pos (by omega)]; congr 1; omega
      · rw [if_neg k, if_neg (by omega)]
    · rw [if_neg h, getT_deadT d]
      by_cases k : t / 2 + 1 < 2 ^ d
      · rw [if_pos k, if_pos (by omega)]; congr 1; omega
      · rw [if_neg k, if_neg (by omega)]

def canT : List (Nat × LV) → Tr → Tr
  | [], T => T
  | (i, v) :: l, T => canT l (setT 16 T i v)

theorem getT_canT : ∀ (l : List (Nat × LV)) (T : Tr) (t : Nat), (∀ q ∈ l, q.1 < 60000) → (l.map (·.1)).Nodup →
    (∀ q ∈ l, q.1 = t → getT (canT l T) t = q.2) ∧ ((∀ q ∈ l, q.1 ≠ t) → getT (canT l T) t = getT T t)
  | [], T, t, _, _ => ⟨fun q hq => (by cases hq), fun _ => rfl⟩
  | (i, v) :: l, T, t, hlt, hnd => by
    simp only [List.map_cons, List.nodup_cons] at hnd
    obtain ⟨h1, h2⟩ := getT_canT l (setT 16 T i v) t (fun q hq => hlt q (List.mem_cons_of_mem _ hq)) hnd.2
    have hi : i < 60000 := hlt (i, v) (List.mem_cons_self ..)
    have hs := getT_setT 16 T i v t (by omega)
    refine ⟨fun q hq he => ?_, fun hne => ?_⟩
    · rcases List.mem_cons.1 hq with rfl | hq
      · have he' : i = t := he
        show getT (canT l (setT 16 T i v)) t = v
        rw [h2 fun q' hq' e => hnd.1 (by rw [he', ← e]; exact List.mem_map_of_mem hq'), hs, if_pos he'.symm]
      · exact h1 q hq he
    · show getT (canT l (setT 16 T i v)) t = _
      rw [h2 fun q hq => hne q (List.mem_cons_of_mem _ hq), hs, if_neg (fun e => hne (i, v) (List.mem_cons_self ..) e.symm)]

/-- A known state: some slots, some blocks. -/
structure Kst where
  live : List (Nat × LV)
  mem : Mem
  nb : Nat

def Kst.tm (A : Kst) (dead : Nat → Value) : Tr := canT A.live (deadT 16 fun t => .v (.one (.opq (dead t))))
def Kst.st (A : Kst) (sz : Nat) (dead : Nat → Value) (dec : List (Option Bool)) : St := ⟨A.tm dead, sz, A.mem, A.nb, dec, []⟩
def Kst.ms (A : Kst) : St := ⟨.nil, 0, A.mem, A.nb, [], []⟩

structure KstOK (A : Kst) : Prop where
  lt : ∀ q ∈ A.live, q.1 < 60000
  nd : (A.live.map (·.1)).Nodup
  okT : ∀ q ∈ A.live, q.2.ok (below A.nb) = true
  okM : ∀ i b, getM A.mem i = some b → i < A.nb ∧ okL (below A.nb) b.cells = true
  uq : uniq A.mem

def memOKb (nb : Nat) : Mem → Bool
  | [] => true
  | (i, b) :: m => match Nat.blt i nb with
    | true => match okL (below nb) b.cells with
      | true => match getM m i with
        | none => memOKb nb m
        | some _ => false
      | false => false
    | false => false
def liveOKb (nb : Nat) : List (Nat × LV) → Bool
  | [] => true
  | (i, v) :: l => match Nat.blt i 60000 with
    | true => match v.ok (below nb) with
      | true => match memB (l.map (·.1)) i with
        | true => false
        | false => liveOKb nb l
      | false => false
    | false => false
def canB (A : Kst) : Bool :=
  match liveOKb A.nb A.live with
  | true => memOKb A.nb A.mem
  | false => false

theorem memB_false : ∀ {l : List Nat} {a : Nat}, memB l a = false → a ∉ l
  | [], a, _ => by simp
  | b :: l, a, h => by
    simp only [memB, nbeq] at h
    by_cases hab : b = a
    · simp [hab] at h
    · simp only [hab, decide_false] at h
      simp only [List.mem_cons, not_or]
      exact ⟨fun e => hab e.symm, memB_false h⟩
theorem memOKb_ok : ∀ {nb : Nat} {m : Mem}, memOKb nb m = true → (∀ i b, getM m i = some b → i < nb ∧ okL (below nb) b.cells = true) ∧ uniq m
  | nb, [], _ => ⟨fun i b h => by simp [getM] at h, trivial⟩
  | nb, (j, c) :: m, h => by
    simp only [memOKb] at h
    split at h
    · rename_i h1
      split at h
      · rename_i h2
        split at h
        · rename_i h3
          obtain ⟨g1, g2⟩ := memOKb_ok h
          refine ⟨fun i b hb => ?_, h3, g2⟩
          rw [getM_cons] at hb
          by_cases hij : i = j
          · rw [if_pos hij] at hb; cases hb
            rw [nblt] at h1
            exact ⟨by rw [hij]; simpa using h1, h2⟩
          · rw [if_neg hij] at hb; exact g1 i b hb
        · cases h
      · cases h
    · cases h
theorem liveOKb_ok : ∀ {nb : Nat} {l : List (Nat × LV)}, liveOKb nb l = true → (∀ q ∈ l, q.1 < 60000) ∧ (l.map (·.1)).Nodup ∧ (∀ q ∈ l, q.2.ok (below nb) = true)
  | nb, [], _ => ⟨by simp, by simp, by simp⟩
  | nb, (i, v) :: l, h => by
    simp only [liveOKb] at h
    split at h
    · rename_i h1
      split at h
      · rename_i h2
        split at h
        · cases h
        · rename_i h3
          obtain ⟨g1, g2, g3⟩ := liveOKb_ok h
          rw [nblt] at h1
          have h1' : i < 60000 := by simpa using h1
          refine ⟨fun q hq => ?_, ?_, fun q hq => ?_⟩
          · rcases List.mem_cons.1 hq with rfl | hq
            · exact h1'
            · exact g1 q hq
          · simp only [List.map_cons, List.nodup_cons]
            exact ⟨memB_false h3, g2⟩
          · rcases List.mem_cons.1 hq with rfl | hq
            · exact h2
            · exact g3 q hq
      · cases h
    · cases h
theorem canB_ok {A : Kst} (h : canB A = true) : KstOK A := by
  unfold canB at h
  split at h
  · rename_i h1
    obtain ⟨a, b, c⟩ := liveOKb_ok h1
    obtain ⟨d, e⟩ := memOKb_ok h
    exact ⟨a, b, c, d, e⟩
  · cases h

structure KR (E : Env) (sz : Nat) (A : Kst) (a : Act) (w : World) : Prop where
  ok : KstOK A
  size : a.tmps.size = sz
  le : sz ≤ 60000
  defers : a.defers = []
  tm : ∀ q ∈ A.live, a.tmps.getD q.1 undef = q.2.den E
  rel : Rel E (getM A.mem) w

theorem KR.toR {E : Env} {sz : Nat} {A : Kst} {a : Act} {w : World} (h : KR E sz A a w) (dec : List (Option Bool)) : R E (A.st sz (fun t => a.tmps.getD t undef) dec) a w := by
  have hget : ∀ t : Nat, (∃ q ∈ A.live, q.1 = t ∧ getT (A.tm fun t => a.tmps.getD t undef) t = q.2) ∨ getT (A.tm fun t => a.tmps.getD t undef) t = (if t + 1 < 2 ^ 16 then .v (.one (.opq (a.tmps.getD t undef))) else undefL) := by
    intro t
    obtain ⟨h1, h2⟩ := getT_canT A.live (deadT 16 fun t => .v (.one (.opq (a.tmps.getD t undef)))) t h.ok.lt h.ok.nd
    by_cases hm : ∃ q ∈ A.live, q.1 = t
    · obtain ⟨q, hq, he⟩ := hm
      exact .inl ⟨q, hq, he, h1 q hq he⟩
    · refine .inr ?_
      show getT (canT A.live _) t = _
      rw [h2 fun q hq e => hm ⟨q, hq, e⟩, getT_deadT]
  refine ⟨h.size, h.le, fun t => ?_, h.defers, fun t => ?_, ⟨h.rel, h.ok.okM, h.ok.uq⟩⟩
  · show _ = (getT (A.tm _) t).den E
    rcases hget t with ⟨q, hq, he, hg⟩ | hg
    · rw [hg, ← he, h.tm q hq]
    · rw [hg]
      split
      · rfl
      · rename_i hlt
        have : ¬ t < a.tmps.size := by have := h.size; have := h.le; omega
        simp [Array.getD, this]
        rfl
  · show (getT (A.tm _) t).ok (below A.nb) = true
    rcases hget t with ⟨q, hq, he, hg⟩ | hg
    · rw [hg]; exact h.ok.okT q hq
    · rw [hg]; split <;> rfl

/-- The code goes from one known state to another. -/
def To (P : Program) (sz : Nat) (c : Code) (A : Kst) (e : Ex) (B : Kst) : Prop :=
  ∀ E a w, KR E sz A a w → ∀ Q : Exit → Act → World → Prop, (∀ E' a' w', KR E' sz B a' w' → Ext w E A.ms w' E' B.ms → Q e.to a' w') → c.wp P Q a w

def projS (slots blks : List Nat) (r : Option (Out × St)) : Option (Ex × List LV × List (Option Blk) × List (Bool × Bool)) :=
  match r with
  | some (.ex e, s) => some (e, slots.map (getT s.tm), blks.map (getM s.mem), s.cs)
  | _ => none

section
variable {P : Program} {S : FuncId → Option SumK} {z : Md} {sz : Nat}

theorem zip_getM : ∀ (blks : List Nat) (bs : List Blk) (f : Nat → Option Blk), blks.map f = bs.map some → ∀ i b, getM (blks.zip bs) i = some b → f i = some b
  | [], _, _, _, i, b, h => by simp [getM] at h
  | j :: l, [], _, he, i, b, h => by simp [getM] at h
  | j :: l, c :: bs, f, he, i, b, h => by
    simp only [List.map_cons, List.cons.injEq] at he
    rw [List.zip_cons_cons, getM_cons] at h
    by_cases hij : i = j
    · rw [if_pos hij] at h; rw [hij, he.1, h]
    · rw [if_neg hij] at h; exact zip_getM l bs f he.2 i b h

theorem zip_getT : ∀ (slots : List Nat) (vs : List LV) (f : Nat → LV), slots.map f = vs → ∀ q ∈ slots.zip vs, q.2 = f q.1
  | [], _, _, _, q, h => by simp at h
  | t :: l, [], _, he, q, h => by simp at he
  | t :: l, v :: vs, f, he, q, h => by
    simp only [List.map_cons, List.cons.injEq] at he
    rw [List.zip_cons_cons] at h
    rcases List.mem_cons.1 h with rfl | h
    · exact he.1.symm
    · exact zip_getT l vs f he.2 q h

/-- Off a run, from whatever lies in the other slots. -/
theorem To.exec (hs : Sound P S) {c : Code} {A : Kst} {e : Ex} {slots blks : List Nat} {vs : List LV} {bs : List Blk} {nbB n : Nat} {dec : List (Option Bool)} {cs : List (Bool × Bool)}
    (hrun : ∀ dead, projS slots blks (exec P S z n (.code c) (A.st sz dead dec)) = some (e, vs, bs.map some, cs)) (hcs : ∀ c ∈ cs, c.1 = c.2)
    (hB : KstOK ⟨slots.zip vs, blks.zip bs, nbB⟩) (hnb : A.nb ≤ nbB) : To P sz c A e ⟨slots.zip vs, blks.zip bs, nbB⟩ := by
  intro E a w hk Q hQ
  have hr := hk.toR dec
  have h := hrun fun t => a.tmps.getD t undef
  unfold projS at h
  split at h
  · rename_i e' s' hex
    simp only [Option.some.injEq, Prod.mk.injEq] at h
    obtain ⟨rfl, hv, hb, rfl⟩ := h
    obtain ⟨e2, q1, q2, q3, q4, q5, q6⟩ := (exec_sound (binOK P) hs.sums hs.mix hs.ng n).1 c _ _ s' hex hk.le hr.st
    cases q1
    refine q6 hcs E a w hr Q fun E' a' w' hr' hx => ?_
    have hsub := zip_getM blks bs (getM s'.mem) hb
    refine hQ E' a' w' ⟨hB, hr'.size.trans q4, hk.le, hr'.defers, fun q hq => ?_, ⟨fun i b hib => hr'.m.rel.blk i b (hsub i b hib), fun i j hi hj he => hr'.m.rel.inj i j ?_ ?_ he⟩⟩
      ⟨hnb, hx.agree, hx.os, hx.tape, hx.output, hx.size, hx.frame, fun i hi => hx.src i ?_⟩
    · rw [hr'.tm q.1, zip_getT slots vs (getT s'.tm) hv q hq]
    · obtain ⟨b, hib⟩ := Option.isSome_iff_exists.1 hi; simp [hsub i b hib]
    · obtain ⟨b, hjb⟩ := Option.isSome_iff_exists.1 hj; simp [hsub j b hjb]
    · obtain ⟨b, hib⟩ := Option.isSome_iff_exists.1 hi; simp [hsub i b hib]
  · cases h

theorem To.run (hs : Sound P S) {c : Code} {A : Kst} {e e0 : Ex} {slots blks : List Nat} {vs vs0 : List LV} {bs : List Blk} {bs0 : List (Option Blk)} {nbB n : Nat} {dec : List (Option Bool)} {cs : List (Bool × Bool)}
    (hrun : ∀ dead, projS slots blks (Go.Lr.exec P S z n (.code c) (A.st sz dead dec)) = some (e0, vs0, bs0, cs)) (he : e0 = e) (hv : vs0 = vs) (hb : bs0 = bs.map some) (hcs : ∀ c ∈ cs, c.1 = c.2)
    (hB : KstOK ⟨slots.zip vs, blks.zip bs, nbB⟩) (hnb : A.nb ≤ nbB) : To P sz c A e ⟨slots.zip vs, blks.zip bs, nbB⟩ := by
  subst he
  subst hv
  subst hb
  exact To.exec hs hrun hcs hB hnb

/-- The parts of a code. -/
def c1 : Code → Code
  | .seq a _ => a
  | .block _ a => a
  | .loop a => a
  | .cond _ a _ => a
  | c => c
def c2 : Code → Code
  | .seq _ b => b
  | .cond _ _ b => b
  | c => c
def isSeq : Code → Bool
  | .seq _ _ => true
  | _ => false
def isLoop : Code → Bool
  | .loop _ => true
  | _ => false
def blkId : Code → Option Nat
  | .block id _ => some id
  | _ => none

theorem To.seq {c : Code} {A B C : Kst} {e : Ex} (hc : isSeq c = true) (h : To P sz (c1 c) A .normal B) (k : To P sz (c2 c) B e C) : To P sz c A e C := by
  cases c <;> simp only [isSeq, Bool.false_eq_true] at hc
  intro E a w hr Q hQ
  refine wp_seq (h E a w hr _ fun E' a' w' hr' hx' => ?_)
  exact k E' a' w' hr' Q fun E'' a'' w'' hr'' hx'' => hQ E'' a'' w'' hr'' (hx'.trans hx'')

theorem To.seq_out {c : Code} {A B : Kst} {e : Ex} (hc : isSeq c = true) (he : e ≠ .normal) (h : To P sz (c1 c) A e B) : To P sz c A e B := by
  cases c <;> simp only [isSeq, Bool.false_eq_true] at hc
  intro E a w hr Q hQ
  refine wp_seq (h E a w hr _ fun E' a' w' hr' hx' => ?_)
  have := hQ E' a' w' hr' hx'
  cases e <;> first | exact absurd rfl he | exact this

theorem To.block {c : Code} {id : Nat} {A B : Kst} {e : Ex} (hc : blkId c = some id) (h : To P sz (c1 c) A e B) (he : e = .exit id ∨ e = .normal) : To P sz c A .normal B := by
  cases c <;> simp only [blkId, reduceCtorEq] at hc
  cases hc
  intro E a w hr Q hQ
  refine wp_block (h E a w hr _ fun E' a' w' hr' hx' => ?_)
  have := hQ E' a' w' hr' hx'
  rcases he with rfl | rfl
  · simpa only [Ex.to, Exit.inBlock, if_true] using this
  · exact this

theorem To.block_out {c : Code} {id : Nat} {A B : Kst} {e : Ex} (hc : blkId c = some id) (h : To P sz (c1 c) A e B) (he : e ≠ .exit id) : To P sz c A e B := by
  cases c <;> simp only [blkId, reduceCtorEq] at hc
  cases hc
  intro E a w hr Q hQ
  refine wp_block (h E a w hr _ fun E' a' w' hr' hx' => ?_)
  have := hQ E' a' w' hr' hx'
  cases e with
  | exit i =>
    have hne : i ≠ id := fun h => he (by rw [h])
    simpa only [Ex.to, Exit.inBlock, hne, if_false] using this
  | normal => exact this
  | ret => exact this

/-- The first parts of a sequence, carried out one after the other. -/
def spineL : Nat → Code → List Code
  | 0, _ => []
  | k + 1, c => c1 c :: spineL k (c2 c)
def dropC : Nat → Code → Code
  | 0, c => c
  | k + 1, c => dropC k (c2 c)
def isSpine : Nat → Code → Bool
  | 0, _ => true
  | k + 1, c => match isSeq c with
    | true => isSpine k (c2 c)
    | false => false
def execL (P : Program) (S : FuncId → Option SumK) (z : Md) (n : Nat) : List Code → St → Option (Out × St)
  | [], s => some (.ex .normal, s)
  | c :: l, s => match Go.Lr.exec P S z n (.code c) s with
    | some (.ex .normal, s1) => execL P S z n l s1
    | _ => none

theorem execL_wp (hs : Sound P S) {n : Nat} : ∀ (k : Nat) (c : Code) (s s' : St), isSpine k c = true → execL P S z n (spineL k c) s = some (.ex .normal, s') → s.sz ≤ 60000 → StOK s →
    (Good s' → Good s) ∧ StOK s' ∧ s'.sz = s.sz ∧ s.nb ≤ s'.nb ∧
      (Good s' → ∀ E a w, R E s a w → ∀ Q : Exit → Act → World → Prop, (∀ E' a' w', R E' s' a' w' → Ext w E s w' E' s' → (dropC k c).wp P Q a' w') → c.wp P Q a w)
  | 0, c, s, s', _, h, _, hok => by
    simp only [spineL, execL, Option.some.injEq, Prod.mk.injEq, true_and] at h
    subst h
    exact ⟨id, hok, rfl, Nat.le_refl _, fun _ E a w hr Q hQ => hQ E a w hr (.refl _ _ _)⟩
  | k + 1, c, s, s', hsp, h, hsz, hok => by
    simp only [isSpine] at hsp
    split at hsp
    · rename_i hc
      simp only [spineL, execL] at h
      split at h
      · rename_i s1 hex
        obtain ⟨e, q1, q2, q3, q4, q5, q6⟩ := (exec_sound (binOK P) hs.sums hs.mix hs.ng n).1 (c1 c) s _ s1 hex hsz hok
        cases q1
        obtain ⟨r2, r3, r4, r5, r6⟩ := execL_wp hs k (c2 c) s1 s' hsp h (by omega) q3
        refine ⟨fun hg => q2 (r2 hg), r3, r4.trans q4, Nat.le_trans q5 r5, fun hg E a w hr Q hQ => ?_⟩
        have hw := q6 (r2 hg) E a w hr (Exit.then ((c2 c).wp P Q) Q) fun E' a' w' hr' hx' => r6 hg E' a' w' hr' Q fun E'' a'' w'' hr'' hx'' => hQ E'' a'' w'' hr'' (hx'.trans hx'')
        cases c <;> simp only [isSeq, Bool.false_eq_true] at hc
        exact wp_seq hw
      · cases h
    · cases hsp

theorem To.spine (hs : Sound P S) {c : Code} {A C : Kst} {e : Ex} {k : Nat} {slots blks : List Nat} {vs : List LV} {bs : List Blk} {nbB n : Nat} {dec : List (Option Bool)} {cs : List (Bool × Bool)}
    (hsp : isSpine k c = true) (hrun : ∀ dead, projS slots blks (execL P S z n (spineL k c) (A.st sz dead dec)) = some (.normal, vs, bs.map some, cs)) (hcs : ∀ c ∈ cs, c.1 = c.2)
    (hB : KstOK ⟨slots.zip vs, blks.zip bs, nbB⟩) (hnb : A.nb ≤ nbB) (h : To P sz (dropC k c) ⟨slots.zip vs, blks.zip bs, nbB⟩ e C) : To P sz c A e C := by
  intro E a w hk Q hQ
  have hr := hk.toR dec
  have hh := hrun fun t => a.tmps.getD t undef
  unfold projS at hh
  split at hh
  · rename_i e' s' hex
    simp only [Option.some.injEq, Prod.mk.injEq] at hh
    obtain ⟨rfl, hv, hb, rfl⟩ := hh
    obtain ⟨q2, q3, q4, q5, q6⟩ := execL_wp (z := z) hs k c _ s' hsp hex hk.le hr.st
    refine q6 hcs E a w hr Q fun E' a' w' hr' hx => ?_
    have hsub := zip_getM blks bs (getM s'.mem) hb
    refine h E' a' w' ⟨hB, hr'.size.trans q4, hk.le, hr'.defers, fun q hq => ?_, ⟨fun i b hib => hr'.m.rel.blk i b (hsub i b hib), fun i j hi hj he => hr'.m.rel.inj i j ?_ ?_ he⟩⟩ Q
      fun E'' a'' w'' hr'' hx'' => hQ E'' a'' w'' hr'' (Ext.trans (s1 := Kst.ms ⟨slots.zip vs, blks.zip bs, nbB⟩) ⟨hnb, hx.agree, hx.os, hx.tape, hx.output, hx.size, hx.frame, fun i hi => hx.src i ?_⟩ hx'')
    · rw [hr'.tm q.1, zip_getT slots vs (getT s'.tm) hv q hq]
    · obtain ⟨b, hib⟩ := Option.isSome_iff_exists.1 hi; simp [hsub i b hib]
    · obtain ⟨b, hjb⟩ := Option.isSome_iff_exists.1 hj; simp [hsub j b hjb]
    · obtain ⟨b, hib⟩ := Option.isSome_iff_exists.1 hi; simp [hsub i b hib]
  · cases hh

theorem To.spineR (hs : Sound P S) {c : Code} {A C : Kst} {e e0 : Ex} {k : Nat} {slots blks : List Nat} {vs vs0 : List LV} {bs : List Blk} {bs0 : List (Option Blk)} {nbB n : Nat} {dec : List (Option Bool)} {cs : List (Bool × Bool)}
    (hsp : isSpine k c = true) (hrun : ∀ dead, projS slots blks (execL P S z n (spineL k c) (A.st sz dead dec)) = some (e0, vs0, bs0, cs)) (he : e0 = .normal) (hv : vs0 = vs) (hb : bs0 = bs.map some) (hcs : ∀ c ∈ cs, c.1 = c.2)
    (hB : KstOK ⟨slots.zip vs, blks.zip bs, nbB⟩) (hnb : A.nb ≤ nbB) (h : To P sz (dropC k c) ⟨slots.zip vs, blks.zip bs, nbB⟩ e C) : To P sz c A e C := by
  subst he
  subst hv
  subst hb
  exact To.spine hs hsp hrun hcs hB hnb h

/-- So many rounds of a loop. -/
def Rd (P : Program) (sz : Nat) (c : Code) (m : Nat) (A : Kst) (e : Ex) (B : Kst) : Prop :=
  ∀ E a w, KR E sz A a w → ∀ Q : Exit → Act → World → Prop, (∀ E' a' w', KR E' sz B a' w' → Ext w E A.ms w' E' B.ms → Q e.to a' w') → Code.rounds P c Q m a w

theorem Rd.last {c : Code} {A B : Kst} {e : Ex} (he : e ≠ .normal) (h : To P sz c A e B) : Rd P sz c 1 A e B := by
  intro E a w hr Q hQ
  rw [rounds_succ]
  refine h E a w hr _ fun E' a' w' hr' hx' => ?_
  have := hQ E' a' w' hr' hx'
  cases e <;> first | exact absurd rfl he | exact this

theorem Rd.next {c : Code} {A B C : Kst} {e : Ex} {m : Nat} (h : To P sz c A .normal B) (k : Rd P sz c m B e C) : Rd P sz c (m + 1) A e C := by
  intro E a w hr Q hQ
  rw [rounds_succ]
  refine h E a w hr _ fun E' a' w' hr' hx' => ?_
  exact k E' a' w' hr' Q fun E'' a'' w'' hr'' hx'' => hQ E'' a'' w'' hr'' (hx'.trans hx'')

theorem To.loop {c : Code} {A B : Kst} {e : Ex} {m : Nat} (hc : isLoop c = true) (h : Rd P sz (c1 c) m A e B) : To P sz c A e B := by
  cases c <;> simp only [isLoop, Bool.false_eq_true] at hc
  exact fun E a w hr Q hQ => wp_loop_rounds m (h E a w hr Q hQ)

theorem To.weak {c : Code} {A B C : Kst} {e : Ex} (h : To P sz c A e B) (hl : ∀ q ∈ C.live, q ∈ B.live) (hm : C.mem = B.mem) (hn : C.nb = B.nb) (hC : KstOK C) : To P sz c A e C := by
  intro E a w hr Q hQ
  refine h E a w hr Q fun E' a' w' hr' hx' => hQ E' a' w' ⟨hC, hr'.size, hr'.le, hr'.defers, fun q hq => hr'.tm q (hl q hq), by rw [hm]; exact hr'.rel⟩ ?_
  have e1 : C.ms = B.ms := by unfold Kst.ms; rw [hm, hn]
  rw [e1]; exact hx'

/-- A function's body. -/
def bodyF (P : Program) (f : FuncId) : Code :=
  match P.funcs[f]? with
  | some fn => match fn.body with
    | some c => c
    | none => .skip
  | none => .skip

/-- A whole body. -/
def argsL : Nat → List LV → List (Nat × LV)
  | _, [] => []
  | i, v :: l => (i, v) :: argsL (i + 1) l

theorem argsL_mem : ∀ (l : List LV) (i : Nat) (q : Nat × LV), q ∈ argsL i l ↔ i ≤ q.1 ∧ l[q.1 - i]? = some q.2
  | [], i, q => by simp [argsL]
  | v :: l, i, q => by
    simp only [argsL, List.mem_cons]
    rw [argsL_mem l (i + 1) q]
    constructor
    · rintro (rfl | ⟨h1, h2⟩)
      · simp
      · refine ⟨by omega, ?_⟩
        rw [show q.1 - i = (q.1 - (i + 1)) + 1 by omega]
        simpa using h2
    · rintro ⟨h1, h2⟩
      by_cases h : q.1 = i
      · left
        rw [h] at h2
        simp at h2
        rw [h2, ← h]
      · right
        refine ⟨by omega, ?_⟩
        rw [show q.1 - i = (q.1 - (i + 1)) + 1 by omega] at h2
        simpa using h2

theorem argsL_fst : ∀ (l : List LV) (i : Nat), ((argsL i l).map (·.1)).Nodup ∧ ∀ t ∈ (argsL i l).map (·.1), i ≤ t
  | [], i => by simp [argsL]
  | v :: l, i => by
    obtain ⟨h1, h2⟩ := argsL_fst l (i + 1)
    refine ⟨?_, fun t ht => ?_⟩
    · simp only [argsL, List.map_cons, List.nodup_cons]
      exact ⟨fun h => by have := h2 i h; omega, h1⟩
    · simp only [argsL, List.map_cons, List.mem_cons] at ht
      rcases ht with rfl | ht
      · exact Nat.le_refl _
      · have := h2 t ht; omega

/-- What a call comes to, in a memory of its own. -/
theorem calls_of_To {f : FuncId} {fn : Func} {c : Code} {args : List LV} {m : Mem} {nb : Nat} {B : Kst} {e : Ex} {v : LV} (hf : P.funcs[f]? = some fn) (hb : fn.body = some c)
    (hle : fn.ntmps ≤ 60000) (hargs : args.length ≤ fn.ntmps) (hA : ∀ u ∈ args, u.ok (below nb) = true) (hm : ∀ i b, getM m i = some b → i < nb ∧ okL (below nb) b.cells = true) (hu : uniq m)
    (h : To P fn.ntmps c ⟨argsL 0 args, m, nb⟩ e B) (he : e = .normal ∨ e = .ret)
    (hres : ∀ dead, resultsD P fn.results.toList (getT (B.tm dead)) B.mem = some v) (E : Env) (w : World) (hrel : Rel E (getM m) w) :
    Calls P f (args.map (LV.den E)).toArray w fun e w' => ∃ E', e = .returned (v.den E') ∧ MRel E' B.ms w' ∧ Ext w E (Kst.ms ⟨argsL 0 args, m, nb⟩) w' E' B.ms := by
  refine calls_of_wp hf hb (h E _ w ⟨⟨fun q hq => ?_, (argsL_fst args 0).1, fun q hq => ?_, hm, hu⟩, by simp; omega, hle, rfl, fun q hq => ?_, hrel⟩ _ fun E' a' w' hr' hx' => ?_)
  · have := (argsL_mem args 0 q).1 hq
    have := (List.getElem?_eq_some_iff.1 this.2).1
    omega
  · exact hA q.2 (List.mem_of_getElem? ((argsL_mem args 0 q).1 hq).2)
  · have := ((argsL_mem args 0 q).1 hq).2
    simp only [Nat.sub_zero] at this
    have hlt := (List.getElem?_eq_some_iff.1 this).1
    simp only [Array.getD_eq_getD_getElem?, Array.getElem?_append, List.size_toArray, List.length_map]
    rw [if_pos hlt]
    simp [this]
  · have hR := hr'.toR []
    have hpost : bodyPost P fn (fun e w' => ∃ E', e = .returned (v.den E') ∧ MRel E' B.ms w' ∧ Ext w E (Kst.ms ⟨argsL 0 args, m, nb⟩) w' E' B.ms) .ret a' w' :=
      ⟨hr'.defers, v.den E', resultsD_spec hR.m.rel hR.tm (hres _), E', rfl, ⟨hr'.rel, hr'.ok.okM, hr'.ok.uq⟩, hx'⟩
    rcases he with rfl | rfl
    · exact hpost
    · exact hpost
end

/-- A call of plain values. -/
theorem calls_pure {P : Program} {f : FuncId} {fn : Func} {c : Code} {args : List LV} {B : Kst} {e : Ex} {v : LV} (hf : P.funcs[f]? = some fn) (hb : fn.body = some c)
    (hle : fn.ntmps ≤ 60000) (hargs : args.length ≤ fn.ntmps) (ha : plainVs args = true) (h : To P fn.ntmps c ⟨argsL 0 args, [], 0⟩ e B) (he : e = .normal ∨ e = .ret)
    (hres : ∀ dead, resultsD P fn.results.toList (getT (B.tm dead)) B.mem = some v) (hv : v.ok noP = true) (w : World) :
    Calls P f (args.map (LV.den E0)).toArray w fun e w' => e = .returned (v.den E0) ∧ Below w.heap.size w w' := by
  have ha' := plainVs_iff.1 ha
  refine (calls_of_To (m := []) (nb := 0) hf hb hle hargs (fun u hu => LV.ok_mono noP_below (ha' u hu)) (fun i b h => by simp [getM] at h) trivial h he hres E0 w ⟨fun i b h => by simp [getM] at h, fun i j h => by simp [getM] at h⟩).mono ?_
  rintro e w' ⟨E', rfl, _, hx⟩
  exact ⟨by rw [den_noP hv], hx.os, hx.tape, hx.output, hx.size, fun k hk => hx.frame k hk fun i hi => by simp [getM, Kst.ms] at hi⟩
end Go.Lr

/- wide.Root: its walk, round by round. -/
namespace Go.Proofs.Ytnabopepomjncaa
open Go.Lr
set_option linter.unusedVariables false
set_option linter.unusedSimpArgs false

theorem rootA (dead : Nat → Value) (x y : Int) : projS [4, 5] [1, 2] (execL Try.prog S8 Zl 200 (spineL 3 (bodyF Try.prog 127)) (Kst.st ⟨argsL 0 [.v (.agg [.int .i64 x, .int .u64 y])], [], 0⟩ 51 dead [some false])) = some (Ex.normal, [LV.v (V1.one (At.ptr 1 0)), LV.v (V1.one (At.ptr 2 0))], [some { ty := 150, fr := (0, 0), es := 0, cells := [At.int IntKind.u64 (wr IntKind.u64 x), At.int IntKind.u64 y] }, some { ty := 150, fr := (0, 0), es := 0, cells := [At.int IntKind.u64 0, At.int IntKind.u64 0] }], [(decide (x < 0), false)]) := by kernel_rfl
theorem rootA0 (dead : Nat → Value) (x y : Int) : projS [2, 3] [] (exec Try.prog S8 Zl 200 (.code (bodyF Try.prog 127)) (Kst.st ⟨argsL 0 [.v (.agg [.int .i64 x, .int .u64 y])], [], 0⟩ 51 dead [some true])) = some (Ex.ret, [LV.v (V1.one (At.int IntKind.i64 0)), LV.v (V1.one (At.bool false))], [], [(decide (x < 0), true)]) := by kernel_rfl
theorem rootB (dead : Nat → Value) (p q x y : Int) : projS [4, 5, 6] [1, 2] (exec Try.prog S8 Zl 200 (.code (c1 (c1 (dropC 3 (bodyF Try.prog 127))))) (Kst.st ⟨[(4, .v (.one (.ptr 1 0))), (5, .v (.one (.ptr 2 0)))], [(1, ⟨150, (0, 0), 0, [.int .u64 p, .int .u64 q]⟩), (2, ⟨150, (0, 0), 0, [.int .u64 x, .int .u64 y]⟩)], 3⟩ 51 dead [])) = some (Ex.normal, [LV.v (V1.one (At.ptr 1 0)), LV.v (V1.one (At.ptr 2 0)), LV.v (V1.one (At.int IntKind.i64 126))], [some { ty := 150, fr := (0, 0), es := 0, cells := [At.int IntKind.u64 p, At.int IntKind.u64 q] }, some { ty := 150, fr := (0, 0), es := 0, cells := [At.int IntKind.u64 x, At.int IntKind.u64 y] }], []) := by kernel_rfl
theorem rootC (dead : Nat → Value) (t p q x y : Int) : projS [4, 5] [1, 2] (exec Try.prog S8 Zl 200 (.code (c1 (c1 (c2 (c1 (dropC 3 (bodyF Try.prog 127))))))) (Kst.st ⟨[(4, .v (.one (.ptr 1 0))), (5, .v (.one (.ptr 2 0))), (6, .v (.one (.int .i64 t)))], [(1, ⟨150, (0, 0), 0, [.int .u64 p, .int .u64 q]⟩), (2, ⟨150, (0, 0), 0, [.int .u64 x, .int .u64 y]⟩)], 3⟩ 51 dead [some false])) = some (Ex.exit 0, [LV.v (V1.one (At.ptr 1 0)), LV.v (V1.one (At.ptr 2 0))], [some { ty := 150, fr := (0, 0), es := 0, cells := [At.int IntKind.u64 p, At.int IntKind.u64 q] }, some { ty := 150, fr := (0, 0), es := 0, cells := [At.int IntKind.u64 x, At.int IntKind.u64 y] }], [(decide (t ≥ 0), false)]) := by kernel_rfl
theorem rootD (dead : Nat → Value) (t p q x y : Int) : projS [4, 5, 6] [1, 2] (exec Try.prog S8 Zl 200 (.code (c1 (c1 (c2 (c1 (dropC 3 (bodyF Try.prog 127))))))) (Kst.st ⟨[(4, .v (.one (.ptr 1 0))), (5, .v (.one (.ptr 2 0))), (6, .v (.one (.int .i64 t)))], [(1, ⟨150, (0, 0), 0, [.int .u64 p, .int .u64 q]⟩), (2, ⟨150, (0, 0), 0, [.int .u64 x, .int .u64 y]⟩)], 3⟩ 51 dead [some true, some true])) = some (Ex.normal, [LV.v (V1.one (At.ptr 1 0)), LV.v (V1.one (At.ptr 2 0)), LV.v (V1.one (At.int IntKind.i64 (wr IntKind.i64 (t - 2))))], [some { ty := 150, fr := (0, 0), es := 0, cells := [At.int IntKind.u64 (wHi ((wVal p q - wVal (wHi ((wVal x y + wVal (wHi (wVal 0 1 * pow2 t.toNat % 340282366920938463463374607431768211456)) (wLo (wVal 0 1 * pow2 t.toNat % 340282366920938463463374607431768211456))) % 340282366920938463463374607431768211456)) (wLo ((wVal x y + wVal (wHi (wVal 0 1 * pow2 t.toNat % 340282366920938463463374607431768211456)) (wLo (wVal 0 1 * pow2 t.toNat % 340282366920938463463374607431768211456))) % 340282366920938463463374607431768211456))) % 340282366920938463463374607431768211456)), At.int IntKind.u64 (wLo ((wVal p q - wVal (wHi ((wVal x y + wVal (wHi (wVal 0 1 * pow2 t.toNat % 340282366920938463463374607431768211456)) (wLo (wVal 0 1 * pow2 t.toNat % 340282366920938463463374607431768211456))) % 340282366920938463463374607431768211456)) (wLo ((wVal x y + wVal (wHi (wVal 0 1 * pow2 t.toNat % 340282366920938463463374607431768211456)) (wLo (wVal 0 1 * pow2 t.toNat % 340282366920938463463374607431768211456))) % 340282366920938463463374607431768211456))) % 340282366920938463463374607431768211456))] }, some { ty := 150, fr := (0, 0), es := 0, cells := [At.int IntKind.u64 (wHi ((wVal (wHi (wVal x y / pow2 (Int.toNat 1))) (wLo (wVal x y / pow2 (Int.toNat 1))) + wVal (wHi (wVal 0 1 * pow2 t.toNat % 340282366920938463463374607431768211456)) (wLo (wVal 0 1 * pow2 t.toNat % 340282366920938463463374607431768211456))) % 340282366920938463463374607431768211456)), At.int IntKind.u64 (wLo ((wVal (wHi (wVal x y / pow2 (Int.toNat 1))) (wLo (wVal x y / pow2 (Int.toNat 1))) + wVal (wHi (wVal 0 1 * pow2 t.toNat % 340282366920938463463374607431768211456)) (wLo (wVal 0 1 * pow2 t.toNat % 340282366920938463463374607431768211456))) % 340282366920938463463374607431768211456))] }], [(isU (wHi (wVal x y / pow2 (Int.toNat 1))), true), (isU (wLo (wVal x y / pow2 (Int.toNat 1))), true), (isU (wHi (wVal 0 1 * pow2 t.toNat % 340282366920938463463374607431768211456)), true), (isU (wLo (wVal 0 1 * pow2 t.toNat % 340282366920938463463374607431768211456)), true), (isU p, true), (isU q, true), (isU (wHi ((wVal x y + wVal (wHi (wVal 0 1 * pow2 t.toNat % 340282366920938463463374607431768211456)) (wLo (wVal 0 1 * pow2 t.toNat % 340282366920938463463374607431768211456))) % 340282366920938463463374607431768211456)), true), (isU (wLo ((wVal x y + wVal (wHi (wVal 0 1 * pow2 t.toNat % 340282366920938463463374607431768211456)) (wLo (wVal 0 1 * pow2 t.toNat % 340282366920938463463374607431768211456))) % 340282366920938463463374607431768211456)), true), (!decide (wVal p q < wVal (wHi ((wVal x y + wVal (wHi (wVal 0 1 * pow2 t.toNat % 340282366920938463463374607431768211456)) (wLo (wVal 0 1 * pow2 t.toNat % 340282366920938463463374607431768211456))) % 340282366920938463463374607431768211456)) (wLo ((wVal x y + wVal (wHi (wVal 0 1 * pow2 t.toNat % 340282366920938463463374607431768211456)) (wLo (wVal 0 1 * pow2 t.toNat % 340282366920938463463374607431768211456))) % 340282366920938463463374607431768211456))), true), (isU q, true), (isU (wLo ((wVal x y + wVal (wHi (wVal 0 1 * pow2 t.toNat % 340282366920938463463374607431768211456)) (wLo (wVal 0 1 * pow2 t.toNat % 340282366920938463463374607431768211456))) % 340282366920938463463374607431768211456)), true), (isU x, true), (isU y, true), (decide (0 ≤ 1) && decide (1 < 128), true), (isU x, true), (isU y, true), (isU (wHi (wVal 0 1 * pow2 t.toNat % 340282366920938463463374607431768211456)), true), (isU (wLo (wVal 0 1 * pow2 t.toNat % 340282366920938463463374607431768211456)), true), (isU 0, true), (isU 1, true), (decide (0 ≤ t) && decide (t < 128), true), (decide (t ≥ 0), true)]) := by kernel_rfl
theorem rootE (dead : Nat → Value) (t p q x y : Int) : projS [4, 5, 6] [1, 2] (exec Try.prog S8 Zl 200 (.code (c1 (c1 (c2 (c1 (dropC 3 (bodyF Try.prog 127))))))) (Kst.st ⟨[(4, .v (.one (.ptr 1 0))), (5, .v (.one (.ptr 2 0))), (6, .v (.one (.int .i64 t)))], [(1, ⟨150, (0, 0), 0, [.int .u64 p, .int .u64 q]⟩), (2, ⟨150, (0, 0), 0, [.int .u64 x, .int .u64 y]⟩)], 3⟩ 51 dead [some true, some false])) = some (Ex.normal, [LV.v (V1.one (At.ptr 1 0)), LV.v (V1.one (At.ptr 2 0)), LV.v (V1.one (At.int IntKind.i64 (wr IntKind.i64 (t - 2))))], [some { ty := 150, fr := (0, 0), es := 0, cells := [At.int IntKind.u64 p, At.int IntKind.u64 q] }, some { ty := 150, fr := (0, 0), es := 0, cells := [At.int IntKind.u64 (wHi (wVal x y / pow2 (Int.toNat 1))), At.int IntKind.u64 (wLo (wVal x y / pow2 (Int.toNat 1)))] }], [(!decide (wVal p q < wVal (wHi ((wVal x y + wVal (wHi (wVal 0 1 * pow2 t.toNat % 340282366920938463463374607431768211456)) (wLo (wVal 0 1 * pow2 t.toNat % 340282366920938463463374607431768211456))) % 340282366920938463463374607431768211456)) (wLo ((wVal x y + wVal (wHi (wVal 0 1 * pow2 t.toNat % 340282366920938463463374607431768211456)) (wLo (wVal 0 1 * pow2 t.toNat % 340282366920938463463374607431768211456))) % 340282366920938463463374607431768211456))), false), (isU q, true), (isU (wLo ((wVal x y + wVal (wHi (wVal 0 1 * pow2 t.toNat % 340282366920938463463374607431768211456)) (wLo (wVal 0 1 * pow2 t.toNat % 340282366920938463463374607431768211456))) % 340282366920938463463374607431768211456)), true), (isU x, true), (isU y, true), (decide (0 ≤ 1) && decide (1 < 128), true), (isU x, true), (isU y, true), (isU (wHi (wVal 0 1 * pow2 t.toNat % 340282366920938463463374607431768211456)), true), (isU (wLo (wVal 0 1 * pow2 t.toNat % 340282366920938463463374607431768211456)), true), (isU 0, true), (isU 1, true), (decide (0 ≤ t) && decide (t < 128), true), (decide (t ≥ 0), true)]) := by kernel_rfl
theorem rootF (dead : Nat → Value) (p q x y : Int) : projS [2, 3] [] (exec Try.prog S8 Zl 200 (.code (c2 (dropC 3 (bodyF Try.prog 127)))) (Kst.st ⟨[(4, .v (.one (.ptr 1 0))), (5, .v (.one (.ptr 2 0)))], [(1, ⟨150, (0, 0), 0, [.int .u64 p, .int .u64 q]⟩), (2, ⟨150, (0, 0), 0, [.int .u64 x, .int .u64 y]⟩)], 3⟩ 51 dead [some true])) = some (Ex.ret, [LV.v (V1.one (At.int IntKind.i64 (if isI (sgn false (wVal (wHi ((wVal x y + wVal 0 1) % 340282366920938463463374607431768211456)) (wLo ((wVal x y + wVal 0 1) % 340282366920938463463374607431768211456)))) = true then sgn false (wVal (wHi ((wVal x y + wVal 0 1) % 340282366920938463463374607431768211456)) (wLo ((wVal x y + wVal 0 1) % 340282366920938463463374607431768211456))) else 0))), LV.v (V1.one (At.bool (isI (sgn false (wVal (wHi ((wVal x y + wVal 0 1) % 340282366920938463463374607431768211456)) (wLo ((wVal x y + wVal 0 1) % 340282366920938463463374607431768211456)))))))], [], [(isU (wHi ((wVal x y + wVal 0 1) % 340282366920938463463374607431768211456)), true), (isU (wLo ((wVal x y + wVal 0 1) % 340282366920938463463374607431768211456)), true), (isU x, true), (isU y, true), (isU 0, true), (isU 1, true), (decide (wVal x y < wVal p q), true), (isU y, true), (isU q, true)]) := by kernel_rfl
theorem rootG (dead : Nat → Value) (p q x y : Int) : projS [2, 3] [] (exec Try.prog S8 Zl 200 (.code (c2 (dropC 3 (bodyF Try.prog 127)))) (Kst.st ⟨[(4, .v (.one (.ptr 1 0))), (5, .v (.one (.ptr 2 0)))], [(1, ⟨150, (0, 0), 0, [.int .u64 p, .int .u64 q]⟩), (2, ⟨150, (0, 0), 0, [.int .u64 x, .int .u64 y]⟩)], 3⟩ 51 dead [some false])) = some (Ex.ret, [LV.v (V1.one (At.int IntKind.i64 (if isI (sgn false (wVal x y)) = true then sgn false (wVal x y) else 0))), LV.v (V1.one (At.bool (isI (sgn false (wVal x y)))))], [], [(isU x, true), (isU y, true), (decide (wVal x y < wVal p q), false), (isU y, true), (isU q, true)]) := by kernel_rfl

noncomputable def rootBody : Code := c2 (c1 (dropC 3 (bodyF Try.prog 127)))
abbrev P1 : LV := .v (.one (.ptr 1 0))
abbrev P2 : LV := .v (.one (.ptr 2 0))
def bigB (v : Int) : Blk := ⟨150, (0, 0), 0, [.int .u64 (wHi v), .int .u64 (wLo v)]⟩
def rtA (p r t : Int) : Kst := ⟨[(4, P1), (5, P2), (6, .v (.one (.int .i64 t)))], [(1, bigB p), (2, bigB r)], 3⟩
def rtB (p r : Int) : Kst := ⟨[(4, P1), (5, P2)], [(1, bigB p), (2, bigB r)], 3⟩

theorem blk2 {ty : TypeId} {k k' : IntKind} {a a' b b' : Int} (h1 : a = a') (h2 : b = b') : (⟨ty, (0, 0), 0, [.int k a, .int k' b]⟩ : Blk) = ⟨ty, (0, 0), 0, [.int k a', .int k' b']⟩ := by subst h1; subst h2; rfl

theorem rootStep (N : Int) (hN : N < 170141183460469231731687303715884105728) (m : Nat) (hm : m ≤ 63) (p r : Int) (h : RtInv N (m + 1) p r) :
    To Try.prog 51 (c1 (c1 rootBody)) (rtA p r (2 * (m : Int))) .normal (rtA (if p < r + pow2 (2 * m) then p else p - (r + pow2 (2 * m))) (if p < r + pow2 (2 * m) then r / 2 else r / 2 + pow2 (2 * m)) (2 * (m : Int) - 2)) := by
  obtain ⟨b0, b1, b2, b3⟩ := h.bd
  have ht : (2 * (m : Int)).toNat = 2 * m := by omega
  have hb0 := pow2_pos (2 * m)
  have hb1 : pow2 (2 * m) ≤ 85070591730234615865843651857942052864 := pow2_le (n := 126) _ (by omega) (by decide)
  have e0 : wVal 0 1 = 1 := rfl
  have e1 : pow2 (Int.toNat 1) = 2 := rfl
  have e2 : 1 * pow2 (2 * m) % 340282366920938463463374607431768211456 = pow2 (2 * m) := by rw [Int.one_mul]; omega
  have e3 : (r + pow2 (2 * m)) % 340282366920938463463374607431768211456 = r + pow2 (2 * m) := by omega
  have e5 : (r / 2 + pow2 (2 * m)) % 340282366920938463463374607431768211456 = r / 2 + pow2 (2 * m) := by omega
  have e6 : wr .i64 (2 * (m : Int) - 2) = 2 * (m : Int) - 2 := w64s (by omega) (by omega)
  by_cases hlt : p < r + pow2 (2 * m)
  · rw [if_pos hlt, if_pos hlt]
    refine To.run (z := Zl) sound8 (slots := [4, 5, 6]) (blks := [1, 2]) (vs := [P1, P2, .v (.one (.int .i64 (2 * (m : Int) - 2)))]) (bs := [bigB p, bigB (r / 2)]) (nbB := 3) (fun dead => rootE dead (2 * (m : Int)) (wHi p) (wLo p) (wHi r) (wLo r)) rfl (by rw [e6]) (by simp only [wVal_mk, e1]; rfl) ?_ (canB_ok (by rfl)) (Nat.le_refl _)
    · simp only [wVal_mk, e0, e1, ht, e2, e3, all_tt, all_ff, isU_iff, Bool.and_eq_true, decide_eq_true_eq]
      refine ⟨by simpa using hlt, ?_⟩
      repeat' apply And.intro
      all_goals first | exact ae_nil | (unfold wHi; omega) | (unfold wLo; omega) | omega
  · rw [if_neg hlt, if_neg hlt]
    have e4 : (p - (r + pow2 (2 * m))) % 340282366920938463463374607431768211456 = p - (r + pow2 (2 * m)) := by omega
    refine To.run (z := Zl) sound8 (slots := [4, 5, 6]) (blks := [1, 2]) (vs := [P1, P2, .v (.one (.int .i64 (2 * (m : Int) - 2)))]) (bs := [bigB (p - (r + pow2 (2 * m))), bigB (r / 2 + pow2 (2 * m))]) (nbB := 3) (fun dead => rootD dead (2 * (m : Int)) (wHi p) (wLo p) (wHi r) (wLo r)) rfl (by rw [e6]) (by simp only [wVal_mk, e0, e1, ht, e2, e3, e4, e5]; rfl) ?_ (canB_ok (by rfl)) (Nat.le_refl _)
    · simp only [wVal_mk, e0, e1, ht, e2, e3, e4, e5, all_tt, all_ff, isU_iff, Bool.and_eq_true, decide_eq_true_eq]
      repeat' apply And.intro
      all_goals first | exact ae_nil | (unfold wHi; omega) | (unfold wLo; omega) | omega | (simp; omega)

theorem rootEnd (p r : Int) : To Try.prog 51 (c1 (c1 rootBody)) (rtA p r (-2)) (.exit 0) (rtB p r) :=
  To.exec (z := Zl) sound8 (slots := [4, 5]) (blks := [1, 2]) (vs := [P1, P2]) (bs := [bigB p, bigB r]) (nbB := 3) (fun dead => rootC dead (-2) (wHi p) (wLo p) (wHi r) (wLo r)) (by simp) (canB_ok (by rfl)) (Nat.le_refl _)

theorem rootRd (N : Int) (hN : N < 170141183460469231731687303715884105728) : ∀ (m : Nat), m ≤ 64 → ∀ p r, RtInv N m p r → Rd Try.prog 51 (c1 (c1 rootBody)) (m + 1) (rtA p r (2 * (m : Int) - 2)) (.exit 0) (rtB (rtL m p r).1 (rtL m p r).2)
  | 0, _, p, r, h => Rd.last (by simp) (rootEnd p r)
  | m + 1, hm, p, r, h => by
    have hs := rootStep N hN m (by omega) p r h
    have e : 2 * ((m + 1 : Nat) : Int) - 2 = 2 * (m : Int) := by omega
    rw [e]
    refine Rd.next hs ?_
    simp only [rtL]
    by_cases hlt : p < r + pow2 (2 * m)
    · rw [if_pos hlt, if_pos hlt, decide_eq_true hlt]
      exact rootRd N hN m (by omega) _ _ (h.half hlt)
    · rw [if_neg hlt, if_neg hlt, decide_eq_false hlt]
      exact rootRd N hN m (by omega) _ _ (h.take hlt)

def rootS : List LV → Option (LV × List (Bool × Bool))
  | [.v (.agg [.int .i64 x, .int .u64 y])] =>
    match decide (x < 0) with
    | true => some (.tup [.one (.int .i64 0), .one (.bool false)], [])
    | false => some (.tup [.one (.int .i64 (if isI (rootW (wVal x y)) = true then rootW (wVal x y) else 0)), .one (.bool (isI (rootW (wVal x y))))], [(isI x, true), (isU y, true)])
  | _ => none


theorem sumRoot : SumOK Try.prog 127 (pureSum rootS) := by
  refine pureSum_ok fun args v cs hF hc w => ?_
  unfold rootS at hF
  split at hF
  · rename_i x y
    refine callOK_of (own_of sound8 Try.func127 (by kernel_rfl)) ?_
    split at hF
    · rename_i hx
      cases hF
      refine calls_pure (c := bodyF Try.prog 127) (e := .ret) (B := ⟨[(2, .v (.one (.int .i64 0))), (3, .v (.one (.bool false)))], [], 0⟩) Try.func127 (by kernel_rfl) (Nat.le_of_ble_eq_true (by kernel_rfl)) (Nat.le_of_ble_eq_true (by kernel_rfl)) rfl ?_ (.inr rfl) (fun dead => by kernel_rfl) rfl w
      exact To.exec (z := Zl) sound8 (slots := [2, 3]) (blks := []) (vs := [_, _]) (bs := []) (nbB := 0) (fun dead => rootA0 dead x y) (by simpa using hx) (canB_ok (by rfl)) (Nat.le_refl _)
    · rename_i hx
      cases hF
      simp only [all_tt, isU_iff, isI_iff] at hc
      obtain ⟨⟨hx0, hx1⟩, ⟨hy0, hy1⟩, -⟩ := hc
      have hx' : 0 ≤ x := by simpa using hx
      have hN0 : 0 ≤ wVal x y := by unfold wVal; omega
      have hN1 : wVal x y < 170141183460469231731687303715884105728 := by unfold wVal; omega
      have hux : wr .u64 x = x := u64_in hx' (by omega)
      have hhx : wHi (wVal x y) = x := hi_mk x y hy0 hy1
      have hhy : wLo (wVal x y) = y := lo_mk x y hy0 hy1
      generalize hN : wVal x y = N at *
      have hI := (RtInv.start hN0 (by omega)).run
      have hbd := hI.bd
      have hrd := rootRd N hN1 64 (by omega) N 0 (RtInv.start hN0 (by omega))
      refine calls_pure (c := bodyF Try.prog 127) (e := .ret) (B := ⟨[(2, .v (.one (.int .i64 (if isI (rootW N) = true then rootW N else 0)))), (3, .v (.one (.bool (isI (rootW N)))))], [], 3⟩) Try.func127 (by kernel_rfl) (Nat.le_of_ble_eq_true (by kernel_rfl)) (Nat.le_of_ble_eq_true (by kernel_rfl)) rfl ?_ (.inr rfl) (fun dead => by kernel_rfl) rfl w
      refine To.spineR (z := Zl) sound8 (k := 3) (slots := [4, 5]) (blks := [1, 2]) (vs := [P1, P2]) (bs := [bigB N, bigB 0]) (nbB := 3) (by kernel_rfl) (fun dead => rootA dead x y) rfl rfl (by rw [hux]; unfold bigB; rw [hhx, hhy]; rfl) (by simpa using hx) (canB_ok (by rfl)) (Nat.zero_le _) ?_
      · refine To.seq (by kernel_rfl) (To.seq (by kernel_rfl) (To.exec (z := Zl) sound8 (slots := [4, 5, 6]) (blks := [1, 2]) (vs := [P1, P2, .v (.one (.int .i64 126))]) (bs := [bigB N, bigB 0]) (nbB := 3) (fun dead => rootB dead (wHi N) (wLo N) (wHi 0) (wLo 0)) (by simp) (canB_ok (by rfl)) (Nat.le_refl _))
          (To.block (id := 0) (by kernel_rfl) (To.loop (by kernel_rfl) hrd) (.inl rfl))) ?_
        -- the end
        unfold rootW
        generalize rtL 64 N 0 = q at *
        obtain ⟨p, r⟩ := q
        simp only at hbd ⊢
        obtain ⟨b0, b1, b2, b3⟩ := hbd
        have e0 : wVal 0 1 = 1 := rfl
        by_cases hlt : r < p
        · rw [if_pos hlt]
          have e1 : (r + 1) % 340282366920938463463374607431768211456 = r + 1 := by omega
          refine To.run (z := Zl) sound8 (slots := [2, 3]) (blks := []) (vs := [.v (.one (.int .i64 (if isI (r + 1) = true then r + 1 else 0))), .v (.one (.bool (isI (r + 1))))]) (bs := []) (nbB := 3) (fun dead => rootF dead (wHi p) (wLo p) (wHi r) (wLo r)) rfl (by simp only [wVal_mk, e0, e1]; rfl) rfl ?_ (canB_ok (by rfl)) (Nat.le_refl _)
          · simp only [wVal_mk, e0, e1, all_tt, all_ff, isU_iff, decide_eq_true_eq]
            repeat' apply And.intro
            all_goals first | exact ae_nil | (unfold wHi; omega) | (unfold wLo; omega) | omega
        · rw [if_neg hlt]
          refine To.run (z := Zl) sound8 (slots := [2, 3]) (blks := []) (vs := [.v (.one (.int .i64 (if isI r = true then r else 0))), .v (.one (.bool (isI r)))]) (bs := []) (nbB := 3) (fun dead => rootG dead (wHi p) (wLo p) (wHi r) (wLo r)) rfl (by simp only [wVal_mk]; rfl) rfl ?_ (canB_ok (by rfl)) (Nat.le_refl _)
          · simp only [wVal_mk, all_tt, all_ff, isU_iff, decide_eq_false_iff_not]
            repeat' apply And.intro
            all_goals first | exact ae_nil | (unfold wHi; omega) | (unfold wLo; omega) | omega
  · cases hF
end Go.Proofs.Ytnabopepomjncaa

/- math/bits.Div64: its pieces' runs (printed). -/
namespace Go.Proofs.Ytnabopepomjncaa
open Go.Lr
set_option linter.unusedVariables false
def U (n : Int) : LV := .v (.one (.int .u64 n))
theorem dvA (dead : Nat → Value) (h l y : Int) : projS [2, 8, 9, 10, 11, 13, 14, 15, 16] [] (execL Try.prog S8 Zl 200 (spineL 14 (bodyF Try.prog 144)) (Kst.st ⟨argsL 0 [.v (.one (.int .u64 h)), .v (.one (.int .u64 l)), .v (.one (.int .u64 y))], [], 0⟩ 135 dead [some false, some false, some false])) = some (Ex.normal, [LV.v (V1.one (At.int IntKind.u64 (wr IntKind.u64 (y * pow2 (min (wr IntKind.u64 (lzV y)).toNat IntKind.u64.bits))))), LV.v (V1.one (At.int IntKind.u64 (wr IntKind.u64 (lzV y)))), LV.v (V1.one (At.int IntKind.u64 (wr IntKind.u64 (y * pow2 (min (wr IntKind.u64 (lzV y)).toNat IntKind.u64.bits)) / pow2 (min (Int.toNat 32) IntKind.u64.bits)))), LV.v (V1.one (At.int IntKind.u64 (Int.ofNat ((u64 (wr IntKind.u64 (y * pow2 (min (wr IntKind.u64 (lzV y)).toNat IntKind.u64.bits)))).toNat.land (u64 4294967295).toNat)))), LV.v (V1.one (At.int IntKind.u64 (Int.ofNat ((u64 (wr IntKind.u64 (h * pow2 (min (wr IntKind.u64 (lzV y)).toNat IntKind.u64.bits)))).toNat.lor (u64 (l / pow2 (min (wr IntKind.u64 (64 - wr IntKind.u64 (lzV y))).toNat IntKind.u64.bits))).toNat)))), LV.v (V1.one (At.int IntKind.u64 (wr IntKind.u64 (l * pow2 (min (wr IntKind.u64 (lzV y)).toNat IntKind.u64.bits)) / pow2 (min (Int.toNat 32) IntKind.u64.bits)))), LV.v (V1.one (At.int IntKind.u64 (Int.ofNat ((u64 (wr IntKind.u64 (l * pow2 (min (wr IntKind.u64 (lzV y)).toNat IntKind.u64.bits)))).toNat.land (u64 4294967295).toNat)))), LV.v (V1.one (At.int IntKind.u64 (wr IntKind.u64 ((Int.ofNat ((u64 (wr IntKind.u64 (h * pow2 (min (wr IntKind.u64 (lzV y)).toNat IntKind.u64.bits)))).toNat.lor (u64 (l / pow2 (min (wr IntKind.u64 (64 - wr IntKind.u64 (lzV y))).toNat IntKind.u64.bits))).toNat)).tdiv (wr IntKind.u64 (y * pow2 (min (wr IntKind.u64 (lzV y)).toNat IntKind.u64.bits)) / pow2 (min (Int.toNat 32) IntKind.u64.bits)))))), LV.v (V1.one (At.int IntKind.u64 (wr IntKind.u64 (Int.ofNat ((u64 (wr IntKind.u64 (h * pow2 (min (wr IntKind.u64 (lzV y)).toNat IntKind.u64.bits)))).toNat.lor (u64 (l / pow2 (min (wr IntKind.u64 (64 - wr IntKind.u64 (lzV y))).toNat IntKind.u64.bits))).toNat) - wr IntKind.u64 (wr IntKind.u64 ((Int.ofNat ((u64 (wr IntKind.u64 (h * pow2 (min (wr IntKind.u64 (lzV y)).toNat IntKind.u64.bits)))).toNat.lor (u64 (l / pow2 (min (wr IntKind.u64 (64 - wr IntKind.u64 (lzV y))).toNat IntKind.u64.bits))).toNat)).tdiv (wr IntKind.u64 (y * pow2 (min (wr IntKind.u64 (lzV y)).toNat IntKind.u64.bits)) / pow2 (min (Int.toNat 32) IntKind.u64.bits))) * (wr IntKind.u64 (y * pow2 (min (wr IntKind.u64 (lzV y)).toNat IntKind.u64.bits)) / pow2 (min (Int.toNat 32) IntKind.u64.bits)))))))], [], [(decide (wr IntKind.u64 (y * pow2 (min (wr IntKind.u64 (lzV y)).toNat IntKind.u64.bits)) / pow2 (min (Int.toNat 32) IntKind.u64.bits) = 0), false), (decide (wr IntKind.u64 (lzV y) < 0), false), (decide (wr IntKind.u64 (64 - wr IntKind.u64 (lzV y)) < 0), false), (decide (wr IntKind.u64 (lzV y) < 0), false), (decide (wr IntKind.u64 (lzV y) < 0), false), (isU y, true), (decide (0 < y), true), (h == 0, false), (decide (y ≤ h), false), (y == 0, false)]) := by kernel_rfl
theorem dvZ (dead : Nat → Value) (h l y : Int) : projS [6, 7] [] (exec Try.prog S8 Zl 200 (.code (bodyF Try.prog 144)) (Kst.st ⟨argsL 0 [.v (.one (.int .u64 h)), .v (.one (.int .u64 l)), .v (.one (.int .u64 y))], [], 0⟩ 135 dead [some false, some false, some true])) = some (Ex.ret, [LV.v (V1.one (At.int IntKind.u64 (wr IntKind.u64 (l.tdiv y)))), LV.v (V1.one (At.int IntKind.u64 (l.tmod y)))], [], [(decide (y = 0), false), (decide (y = 0), false), (h == 0, true), (decide (y ≤ h), false), (y == 0, false)]) := by kernel_rfl
theorem dvM (dead : Nat → Value) (y s n1 n0 u32 u1 u0 q r : Int) : projS [2, 8, 9, 10, 14, 15, 17, 18, 16] [] (execL Try.prog S8 Zl 200 (spineL 3 (c2 (dropC 14 (bodyF Try.prog 144)))) (Kst.st ⟨[(2, U y), (8, U s), (9, U n1), (10, U n0), (11, U u32), (13, U u1), (14, U u0), (15, U q), (16, U r)], [], 0⟩ 135 dead [])) = some (Ex.normal, [LV.v (V1.one (At.int IntKind.u64 y)), LV.v (V1.one (At.int IntKind.u64 s)), LV.v (V1.one (At.int IntKind.u64 n1)), LV.v (V1.one (At.int IntKind.u64 n0)), LV.v (V1.one (At.int IntKind.u64 u0)), LV.v (V1.one (At.int IntKind.u64 q)), LV.v (V1.one (At.int IntKind.u64 (wr IntKind.u64 (wr IntKind.u64 (wr IntKind.u64 (u32 * 4294967296) + u1) - wr IntKind.u64 (q * y))))), LV.v (V1.one (At.int IntKind.u64 (wr IntKind.u64 ((wr IntKind.u64 (wr IntKind.u64 (wr IntKind.u64 (u32 * 4294967296) + u1) - wr IntKind.u64 (q * y))).tdiv n1)))), LV.v (V1.one (At.int IntKind.u64 (wr IntKind.u64 (wr IntKind.u64 (wr IntKind.u64 (wr IntKind.u64 (u32 * 4294967296) + u1) - wr IntKind.u64 (q * y)) - wr IntKind.u64 (wr IntKind.u64 ((wr IntKind.u64 (wr IntKind.u64 (wr IntKind.u64 (u32 * 4294967296) + u1) - wr IntKind.u64 (q * y))).tdiv n1) * n1)))))], [], [(decide (n1 = 0), false)]) := by kernel_rfl
theorem dvE (dead : Nat → Value) (y s n1 n0 u0 q1 u21 q r : Int) : projS [6, 7] [] (exec Try.prog S8 Zl 200 (.code (c2 (dropC 18 (bodyF Try.prog 144)))) (Kst.st ⟨[(2, U y), (8, U s), (9, U n1), (10, U n0), (14, U u0), (15, U q1), (17, U u21), (18, U q), (16, U r)], [], 0⟩ 135 dead [])) = some (Ex.ret, [LV.v (V1.one (At.int IntKind.u64 (wr IntKind.u64 (wr IntKind.u64 (q1 * 4294967296) + q)))), LV.v (V1.one (At.int IntKind.u64 (wr IntKind.u64 (wr IntKind.u64 (wr IntKind.u64 (u21 * 4294967296) + u0) - wr IntKind.u64 (q * y)) / pow2 (min s.toNat IntKind.u64.bits))))], [], [(decide (s < 0), false)]) := by kernel_rfl
theorem dvL1 (dead : Nat → Value) (y s n1 n0 u32 u1 u0 q r : Int) : projS [2, 8, 9, 10, 11, 13, 14, 15, 16] [] (exec Try.prog S8 Zl 200 (.code (c1 (c1 (c1 (dropC 14 (bodyF Try.prog 144)))))) (Kst.st ⟨[(2, U y), (8, U s), (9, U n1), (10, U n0), (11, U u32), (13, U u1), (14, U u0), (15, U q), (16, U r)], [], 0⟩ 135 dead [some true, some true, some true, some true, some true, some true, some true, some true, some true, none, some true])) = some (Ex.exit 0, [LV.v (V1.one (At.int IntKind.u64 y)), LV.v (V1.one (At.int IntKind.u64 s)), LV.v (V1.one (At.int IntKind.u64 n1)), LV.v (V1.one (At.int IntKind.u64 n0)), LV.v (V1.one (At.int IntKind.u64 u32)), LV.v (V1.one (At.int IntKind.u64 u1)), LV.v (V1.one (At.int IntKind.u64 u0)), LV.v (V1.one (At.int IntKind.u64 (wr IntKind.u64 (q - 1)))), LV.v (V1.one (At.int IntKind.u64 (wr IntKind.u64 (r + n1))))], [], [(decide (wr IntKind.u64 (r + n1) ≥ 4294967296), true), (decide (q ≥ 4294967296), true), (decide (q ≥ 4294967296), true), (decide (q ≥ 4294967296), true), (decide (q ≥ 4294967296), true), (decide (q ≥ 4294967296), true), (decide (q ≥ 4294967296), true), (decide (q ≥ 4294967296), true), (decide (q ≥ 4294967296), true), (decide (q ≥ 4294967296), true)]) := by kernel_rfl
theorem dvL2 (dead : Nat → Value) (y s n1 n0 u32 u1 u0 q r : Int) : projS [2, 8, 9, 10, 11, 13, 14, 15, 16] [] (exec Try.prog S8 Zl 200 (.code (c1 (c1 (c1 (dropC 14 (bodyF Try.prog 144)))))) (Kst.st ⟨[(2, U y), (8, U s), (9, U n1), (10, U n0), (11, U u32), (13, U u1), (14, U u0), (15, U q), (16, U r)], [], 0⟩ 135 dead [some true, some true, some true, some true, some true, some true, some true, some true, some true, none, some false])) = some (Ex.normal, [LV.v (V1.one (At.int IntKind.u64 y)), LV.v (V1.one (At.int IntKind.u64 s)), LV.v (V1.one (At.int IntKind.u64 n1)), LV.v (V1.one (At.int IntKind.u64 n0)), LV.v (V1.one (At.int IntKind.u64 u32)), LV.v (V1.one (At.int IntKind.u64 u1)), LV.v (V1.one (At.int IntKind.u64 u0)), LV.v (V1.one (At.int IntKind.u64 (wr IntKind.u64 (q - 1)))), LV.v (V1.one (At.int IntKind.u64 (wr IntKind.u64 (r + n1))))], [], [(decide (wr IntKind.u64 (r + n1) ≥ 4294967296), false), (decide (q ≥ 4294967296), true), (decide (q ≥ 4294967296), true), (decide (q ≥ 4294967296), true), (decide (q ≥ 4294967296), true), (decide (q ≥ 4294967296), true), (decide (q ≥ 4294967296), true), (decide (q ≥ 4294967296), true), (decide (q ≥ 4294967296), true), (decide (q ≥ 4294967296), true)]) := by kernel_rfl
theorem dvL3 (dead : Nat → Value) (y s n1 n0 u32 u1 u0 q r : Int) : projS [2, 8, 9, 10, 11, 13, 14, 15, 16] [] (exec Try.prog S8 Zl 200 (.code (c1 (c1 (c1 (dropC 14 (bodyF Try.prog 144)))))) (Kst.st ⟨[(2, U y), (8, U s), (9, U n1), (10, U n0), (11, U u32), (13, U u1), (14, U u0), (15, U q), (16, U r)], [], 0⟩ 135 dead [some false, some false, some false, some false, some false, some false, some false, some false, some false, some true, some true])) = some (Ex.exit 0, [LV.v (V1.one (At.int IntKind.u64 y)), LV.v (V1.one (At.int IntKind.u64 s)), LV.v (V1.one (At.int IntKind.u64 n1)), LV.v (V1.one (At.int IntKind.u64 n0)), LV.v (V1.one (At.int IntKind.u64 u32)), LV.v (V1.one (At.int IntKind.u64 u1)), LV.v (V1.one (At.int IntKind.u64 u0)), LV.v (V1.one (At.int IntKind.u64 (wr IntKind.u64 (q - 1)))), LV.v (V1.one (At.int IntKind.u64 (wr IntKind.u64 (r + n1))))], [], [(decide (wr IntKind.u64 (r + n1) ≥ 4294967296), true), (decide (wr IntKind.u64 (q * n0) > wr IntKind.u64 (wr IntKind.u64 (4294967296 * r) + u1)), true), (decide (q ≥ 4294967296), false), (decide (q ≥ 4294967296), false), (decide (q ≥ 4294967296), false), (decide (q ≥ 4294967296), false), (decide (q ≥ 4294967296), false), (decide (q ≥ 4294967296), false), (decide (q ≥ 4294967296), false), (decide (q ≥ 4294967296), false), (decide (q ≥ 4294967296), false)]) := by kernel_rfl
theorem dvL4 (dead : Nat → Value) (y s n1 n0 u32 u1 u0 q r : Int) : projS [2, 8, 9, 10, 11, 13, 14, 15, 16] [] (exec Try.prog S8 Zl 200 (.code (c1 (c1 (c1 (dropC 14 (bodyF Try.prog 144)))))) (Kst.st ⟨[(2, U y), (8, U s), (9, U n1), (10, U n0), (11, U u32), (13, U u1), (14, U u0), (15, U q), (16, U r)], [], 0⟩ 135 dead [some false, some false, some false, some false, some false, some false, some false, some false, some false, some true, some false])) = some (Ex.normal, [LV.v (V1.one (At.int IntKind.u64 y)), LV.v (V1.one (At.int IntKind.u64 s)), LV.v (V1.one (At.int IntKind.u64 n1)), LV.v (V1.one (At.int IntKind.u64 n0)), LV.v (V1.one (At.int IntKind.u64 u32)), LV.v (V1.one (At.int IntKind.u64 u1)), LV.v (V1.one (At.int IntKind.u64 u0)), LV.v (V1.one (At.int IntKind.u64 (wr IntKind.u64 (q - 1)))), LV.v (V1.one (At.int IntKind.u64 (wr IntKind.u64 (r + n1))))], [], [(decide (wr IntKind.u64 (r + n1) ≥ 4294967296), false), (decide (wr IntKind.u64 (q * n0) > wr IntKind.u64 (wr IntKind.u64 (4294967296 * r) + u1)), true), (decide (q ≥ 4294967296), false), (decide (q ≥ 4294967296), false), (decide (q ≥ 4294967296), false), (decide (q ≥ 4294967296), false), (decide (q ≥ 4294967296), false), (decide (q ≥ 4294967296), false), (decide (q ≥ 4294967296), false), (decide (q ≥ 4294967296), false), (decide (q ≥ 4294967296), false)]) := by kernel_rfl
theorem dvL5 (dead : Nat → Value) (y s n1 n0 u32 u1 u0 q r : Int) : projS [2, 8, 9, 10, 11, 13, 14, 15, 16] [] (exec Try.prog S8 Zl 200 (.code (c1 (c1 (c1 (dropC 14 (bodyF Try.prog 144)))))) (Kst.st ⟨[(2, U y), (8, U s), (9, U n1), (10, U n0), (11, U u32), (13, U u1), (14, U u0), (15, U q), (16, U r)], [], 0⟩ 135 dead [some false, some false, some false, some false, some false, some false, some false, some false, some false, some false])) = some (Ex.exit 0, [LV.v (V1.one (At.int IntKind.u64 y)), LV.v (V1.one (At.int IntKind.u64 s)), LV.v (V1.one (At.int IntKind.u64 n1)), LV.v (V1.one (At.int IntKind.u64 n0)), LV.v (V1.one (At.int IntKind.u64 u32)), LV.v (V1.one (At.int IntKind.u64 u1)), LV.v (V1.one (At.int IntKind.u64 u0)), LV.v (V1.one (At.int IntKind.u64 q)), LV.v (V1.one (At.int IntKind.u64 r))], [], [(decide (wr IntKind.u64 (q * n0) > wr IntKind.u64 (wr IntKind.u64 (4294967296 * r) + u1)), false), (decide (q ≥ 4294967296), false), (decide (q ≥ 4294967296), false), (decide (q ≥ 4294967296), false), (decide (q ≥ 4294967296), false), (decide (q ≥ 4294967296), false), (decide (q ≥ 4294967296), false), (decide (q ≥ 4294967296), false), (decide (q ≥ 4294967296), false), (decide (q ≥ 4294967296), false)]) := by kernel_rfl
theorem dvN1 (dead : Nat → Value) (y s n1 n0 u0 q1 u21 q r : Int) : projS [2, 8, 9, 10, 14, 15, 17, 18, 16] [] (exec Try.prog S8 Zl 200 (.code (c1 (c1 (c1 (dropC 18 (bodyF Try.prog 144)))))) (Kst.st ⟨[(2, U y), (8, U s), (9, U n1), (10, U n0), (14, U u0), (15, U q1), (17, U u21), (18, U q), (16, U r)], [], 0⟩ 135 dead [some true, some true, some true, some true, some true, some true, some true, some true, some true, none, some true])) = some (Ex.exit 2, [LV.v (V1.one (At.int IntKind.u64 y)), LV.v (V1.one (At.int IntKind.u64 s)), LV.v (V1.one (At.int IntKind.u64 n1)), LV.v (V1.one (At.int IntKind.u64 n0)), LV.v (V1.one (At.int IntKind.u64 u0)), LV.v (V1.one (At.int IntKind.u64 q1)), LV.v (V1.one (At.int IntKind.u64 u21)), LV.v (V1.one (At.int IntKind.u64 (wr IntKind.u64 (q - 1)))), LV.v (V1.one (At.int IntKind.u64 (wr IntKind.u64 (r + n1))))], [], [(decide (wr IntKind.u64 (r + n1) ≥ 4294967296), true), (decide (q ≥ 4294967296), true), (decide (q ≥ 4294967296), true), (decide (q ≥ 4294967296), true), (decide (q ≥ 4294967296), true), (decide (q ≥ 4294967296), true), (decide (q ≥ 4294967296), true), (decide (q ≥ 4294967296), true), (decide (q ≥ 4294967296), true), (decide (q ≥ 4294967296), true)]) := by kernel_rfl
theorem dvN2 (dead : Nat → Value) (y s n1 n0 u0 q1 u21 q r : Int) : projS [2, 8, 9, 10, 14, 15, 17, 18, 16] [] (exec Try.prog S8 Zl 200 (.code (c1 (c1 (c1 (dropC 18 (bodyF Try.prog 144)))))) (Kst.st ⟨[(2, U y), (8, U s), (9, U n1), (10, U n0), (14, U u0), (15, U q1), (17, U u21), (18, U q), (16, U r)], [], 0⟩ 135 dead [some true, some true, some true, some true, some true, some true, some true, some true, some true, none, some false])) = some (Ex.normal, [LV.v (V1.one (At.int IntKind.u64 y)), LV.v (V1.one (At.int IntKind.u64 s)), LV.v (V1.one (At.int IntKind.u64 n1)), LV.v (V1.one (At.int IntKind.u64 n0)), LV.v (V1.one (At.int IntKind.u64 u0)), LV.v (V1.one (At.int IntKind.u64 q1)), LV.v (V1.one (At.int IntKind.u64 u21)), LV.v (V1.one (At.int IntKind.u64 (wr IntKind.u64 (q - 1)))), LV.v (V1.one (At.int IntKind.u64 (wr IntKind.u64 (r + n1))))], [], [(decide (wr IntKind.u64 (r + n1) ≥ 4294967296), false), (decide (q ≥ 4294967296), true), (decide (q ≥ 4294967296), true), (decide (q ≥ 4294967296), true), (decide (q ≥ 4294967296), true), (decide (q ≥ 4294967296), true), (decide (q ≥ 4294967296), true), (decide (q ≥ 4294967296), true), (decide (q ≥ 4294967296), true), (decide (q ≥ 4294967296), true)]) := by kernel_rfl
theorem dvN3 (dead : Nat → Value) (y s n1 n0 u0 q1 u21 q r : Int) : projS [2, 8, 9, 10, 14, 15, 17, 18, 16] [] (exec Try.prog S8 Zl 200 (.code (c1 (c1 (c1 (dropC 18 (bodyF Try.prog 144)))))) (Kst.st ⟨[(2, U y), (8, U s), (9, U n1), (10, U n0), (14, U u0), (15, U q1), (17, U u21), (18, U q), (16, U r)], [], 0⟩ 135 dead [some false, some false, some false, some false, some false, some false, some false, some false, some false, some true, some true])) = some (Ex.exit 2, [LV.v (V1.one (At.int IntKind.u64 y)), LV.v (V1.one (At.int IntKind.u64 s)), LV.v (V1.one (At.int IntKind.u64 n1)), LV.v (V1.one (At.int IntKind.u64 n0)), LV.v (V1.one (At.int IntKind.u64 u0)), LV.v (V1.one (At.int IntKind.u64 q1)), LV.v (V1.one (At.int IntKind.u64 u21)), LV.v (V1.one (At.int IntKind.u64 (wr IntKind.u64 (q - 1)))), LV.v (V1.one (At.int IntKind.u64 (wr IntKind.u64 (r + n1))))], [], [(decide (wr IntKind.u64 (r + n1) ≥ 4294967296), true), (decide (wr IntKind.u64 (q * n0) > wr IntKind.u64 (wr IntKind.u64 (4294967296 * r) + u0)), true), (decide (q ≥ 4294967296), false), (decide (q ≥ 4294967296), false), (decide (q ≥ 4294967296), false), (decide (q ≥ 4294967296), false), (decide (q ≥ 4294967296), false), (decide (q ≥ 4294967296), false), (decide (q ≥ 4294967296), false), (decide (q ≥ 4294967296), false), (decide (q ≥ 4294967296), false)]) := by kernel_rfl
theorem dvN4 (dead : Nat → Value) (y s n1 n0 u0 q1 u21 q r : Int) : projS [2, 8, 9, 10, 14, 15, 17, 18, 16] [] (exec Try.prog S8 Zl 200 (.code (c1 (c1 (c1 (dropC 18 (bodyF Try.prog 144)))))) (Kst.st ⟨[(2, U y), (8, U s), (9, U n1), (10, U n0), (14, U u0), (15, U q1), (17, U u21), (18, U q), (16, U r)], [], 0⟩ 135 dead [some false, some false, some false, some false, some false, some false, some false, some false, some false, some true, some false])) = some (Ex.normal, [LV.v (V1.one (At.int IntKind.u64 y)), LV.v (V1.one (At.int IntKind.u64 s)), LV.v (V1.one (At.int IntKind.u64 n1)), LV.v (V1.one (At.int IntKind.u64 n0)), LV.v (V1.one (At.int IntKind.u64 u0)), LV.v (V1.one (At.int IntKind.u64 q1)), LV.v (V1.one (At.int IntKind.u64 u21)), LV.v (V1.one (At.int IntKind.u64 (wr IntKind.u64 (q - 1)))), LV.v (V1.one (At.int IntKind.u64 (wr IntKind.u64 (r + n1))))], [], [(decide (wr IntKind.u64 (r + n1) ≥ 4294967296), false), (decide (wr IntKind.u64 (q * n0) > wr IntKind.u64 (wr IntKind.u64 (4294967296 * r) + u0)), true), (decide (q ≥ 4294967296), false), (decide (q ≥ 4294967296), false), (decide (q ≥ 4294967296), false), (decide (q ≥ 4294967296), false), (decide (q ≥ 4294967296), false), (decide (q ≥ 4294967296), false), (decide (q ≥ 4294967296), false), (decide (q ≥ 4294967296), false), (decide (q ≥ 4294967296), false)]) := by kernel_rfl
theorem dvN5 (dead : Nat → Value) (y s n1 n0 u0 q1 u21 q r : Int) : projS [2, 8, 9, 10, 14, 15, 17, 18, 16] [] (exec Try.prog S8 Zl 200 (.code (c1 (c1 (c1 (dropC 18 (bodyF Try.prog 144)))))) (Kst.st ⟨[(2, U y), (8, U s), (9, U n1), (10, U n0), (14, U u0), (15, U q1), (17, U u21), (18, U q), (16, U r)], [], 0⟩ 135 dead [some false, some false, some false, some false, some false, some false, some false, some false, some false, some false])) = some (Ex.exit 2, [LV.v (V1.one (At.int IntKind.u64 y)), LV.v (V1.one (At.int IntKind.u64 s)), LV.v (V1.one (At.int IntKind.u64 n1)), LV.v (V1.one (At.int IntKind.u64 n0)), LV.v (V1.one (At.int IntKind.u64 u0)), LV.v (V1.one (At.int IntKind.u64 q1)), LV.v (V1.one (At.int IntKind.u64 u21)), LV.v (V1.one (At.int IntKind.u64 q)), LV.v (V1.one (At.int IntKind.u64 r))], [], [(decide (wr IntKind.u64 (q * n0) > wr IntKind.u64 (wr IntKind.u64 (4294967296 * r) + u0)), false), (decide (q ≥ 4294967296), false), (decide (q ≥ 4294967296), false), (decide (q ≥ 4294967296), false), (decide (q ≥ 4294967296), false), (decide (q ≥ 4294967296), false), (decide (q ≥ 4294967296), false), (decide (q ≥ 4294967296), false), (decide (q ≥ 4294967296), false), (decide (q ≥ 4294967296), false)]) := by kernel_rfl
end Go.Proofs.Ytnabopepomjncaa

/- Long division by two digits: why the digits are right. Plain. -/
namespace Go.Lr
set_option linter.unusedVariables false

structure Dg (y n1 n0 u u1 : Int) : Prop where
  yd : y = n1 * 4294967296 + n0
  n1a : 2147483648 ≤ n1
  n1b : n1 < 4294967296
  n0a : 0 ≤ n0
  n0b : n0 < 4294967296
  ua : 0 ≤ u
  ub : u < y
  u1a : 0 ≤ u1
  u1b : u1 < 4294967296

variable {y n1 n0 u u1 : Int}
theorem Dg.ypos (h : Dg y n1 n0 u u1) : 0 < y := by have := h.yd; have := h.n1a; have := h.n0a; omega
theorem Dg.nn (h : Dg y n1 n0 u u1) : 0 ≤ (u * 4294967296 + u1) / y := Int.ediv_nonneg (by have := h.ua; have := h.u1a; omega) (by have := h.ypos; omega)
theorem Dg.lt (h : Dg y n1 n0 u u1) : (u * 4294967296 + u1) / y < 4294967296 := by
  refine Int.ediv_lt_of_lt_mul h.ypos ?_
  have := h.ub; have := h.u1b; have := h.ypos; omega
theorem Dg.iff (h : Dg y n1 n0 u u1) {q r : Int} (hq : q * n1 + r = u) : q * n0 > 4294967296 * r + u1 ↔ (u * 4294967296 + u1) / y < q := by
  rw [Int.ediv_lt_iff_lt_mul h.ypos, h.yd]
  have e1 : q * (n1 * 4294967296 + n0) = q * n1 * 4294967296 + q * n0 := by grind
  rw [e1, ← hq]
  generalize q * n1 = a
  generalize q * n0 = b
  omega
theorem Dg.brk (h : Dg y n1 n0 u u1) {q r : Int} (hq : q * n1 + r = u) (hlt : (u * 4294967296 + u1) / y < q) (hb : r + n1 ≥ 4294967296) : q - 1 = (u * 4294967296 + u1) / y := by
  have h0 := h.nn
  have hq' : (q - 1) * n1 + (r + n1) = u := by rw [← hq]; grind
  have hi := h.iff hq'
  have e1 : (q - 1) * n1 < 4294967296 * n1 := by have := h.ub; have := h.yd; have := h.n0b; omega
  have e2 : q - 1 < 4294967296 := Int.lt_of_mul_lt_mul_right e1 (by have := h.n1a; omega)
  have e3 : (q - 1) * n0 ≤ 4294967295 * 4294967295 := Int.mul_le_mul (by omega) (by have := h.n0b; omega) h.n0a (by omega)
  have hu := h.u1a
  have : ¬ (u * 4294967296 + u1) / y < q - 1 := by rw [← hi]; omega
  omega

/-- The quotient's digits put together. -/
theorem div_digits {V p y0 y u32 u1 u0 : Int} (hp : 0 < p) (hy0 : 0 < y0) (hy : y = y0 * p) (hV : V * p = (u32 * 4294967296 + u1) * 4294967296 + u0) :
    (u32 * 4294967296 + u1) / y * 4294967296 + ((u32 * 4294967296 + u1) % y * 4294967296 + u0) / y = V / y0 ∧ ((u32 * 4294967296 + u1) % y * 4294967296 + u0) % y / p = V % y0 := by
  have hyp : 0 < y := by rw [hy]; exact Int.mul_pos hy0 hp
  have e1 := Int.emod_add_mul_ediv (u32 * 4294967296 + u1) y
  generalize (u32 * 4294967296 + u1) / y = q1 at *
  generalize (u32 * 4294967296 + u1) % y = r1 at *
  have e2 := Int.emod_add_mul_ediv (r1 * 4294967296 + u0) y
  have m0 := Int.emod_nonneg (r1 * 4294967296 + u0) (show y ≠ 0 by omega)
  have m1 := Int.emod_lt_of_pos (r1 * 4294967296 + u0) hyp
  generalize (r1 * 4294967296 + u0) / y = q0 at *
  generalize (r1 * 4294967296 + u0) % y = r0 at *
  have e3 : V * p = (q1 * 4294967296 + q0) * y + r0 := by rw [hV, ← e1]; grind
  -- what is left is a multiple of p
  have e4 : r0 = (V - (q1 * 4294967296 + q0) * y0) * p := by rw [hy] at e3; grind
  generalize q1 * 4294967296 + q0 = Q at *
  have d0 : 0 ≤ V - Q * y0 := by
    rw [e4] at m0
    exact Int.nonneg_of_mul_nonneg_left m0 hp
  have d1 : V - Q * y0 < y0 := by
    rw [e4, hy] at m1
    exact Int.lt_of_mul_lt_mul_right m1 (by omega)
  have e5 : V = Q * y0 + (V - Q * y0) := by omega
  refine ⟨(ediv_unique e5 d0 d1).symm, ?_⟩
  rw [e4, Int.mul_ediv_cancel _ (by omega)]
  exact (emod_unique e5 d0 d1).symm

end Go.Lr

/- math/bits.Div64: what it comes to. -/
namespace Go.Proofs.Ytnabopepomjncaa
open Go.Lr
set_option linter.unusedVariables false
set_option linter.unusedSimpArgs false

noncomputable def dvBody1 : Code := c1 (c1 (c1 (dropC 14 (bodyF Try.prog 144))))
noncomputable def dvBody2 : Code := c1 (c1 (c1 (dropC 18 (bodyF Try.prog 144))))
def dvS1 (y s n1 n0 u32 u1 u0 q r : Int) : Kst := ⟨[(2, U y), (8, U s), (9, U n1), (10, U n0), (11, U u32), (13, U u1), (14, U u0), (15, U q), (16, U r)], [], 0⟩
def dvS2 (y s n1 n0 u0 q1 u21 q r : Int) : Kst := ⟨[(2, U y), (8, U s), (9, U n1), (10, U n0), (14, U u0), (15, U q1), (17, U u21), (18, U q), (16, U r)], [], 0⟩

theorem oneU {a b : Int} (h : a = b) : LV.v (V1.one (At.int .u64 a)) = U b := by subst h; rfl

theorem allq {c : Bool} : ∀ {n : Nat} {l : List (Bool × Bool)}, (∀ x ∈ List.replicate n (c, c) ++ l, x.1 = x.2) ↔ ∀ x ∈ l, x.1 = x.2 := by
  intro n l
  constructor
  · intro h x hx; exact h x (List.mem_append_right _ hx)
  · intro h x hx
    rcases List.mem_append.1 hx with hx | hx
    · rw [List.eq_of_mem_replicate hx]
    · exact h x hx

/-- The first digit's loop. -/
theorem dvRd1 {y s n1 n0 u32 u1 u0 : Int} (h : Dg y n1 n0 u32 u1) : ∀ (d : Nat) (q r : Int), q * n1 + r = u32 → 0 ≤ r → r < 4294967296 → q ≤ 8589934592 → q = (u32 * 4294967296 + u1) / y + d →
    ∃ m r', Rd Try.prog 135 dvBody1 m (dvS1 y s n1 n0 u32 u1 u0 q r) (.exit 0) (dvS1 y s n1 n0 u32 u1 u0 ((u32 * 4294967296 + u1) / y) r')
  | 0, q, r, hq, hr0, hr1, hq1, hd => by
    have n0a := h.n0a
    have n0b := h.n0b
    have u1a := h.u1a
    have u1b := h.u1b
    have nn := h.nn
    have lt := h.lt
    have hi := h.iff hq
    have hd' : q = (u32 * 4294967296 + u1) / y := by omega
    have p0 : 0 ≤ q * n0 := Int.mul_nonneg (by omega) n0a
    have p1 : q * n0 ≤ 4294967295 * 4294967295 := Int.mul_le_mul (by omega) (by omega) n0a (by omega)
    have c1' : wr .u64 (q * n0) = q * n0 := u64_in p0 (by omega)
    have c2' : wr .u64 (wr .u64 (4294967296 * r) + u1) = 4294967296 * r + u1 := by rw [wr_u, wr_u]; unfold u64; omega
    rw [← hd'] at hi ⊢
    refine ⟨1, r, Rd.last (by simp) ?_⟩
    refine To.weak (B := ⟨[2, 8, 9, 10, 11, 13, 14, 15, 16].zip [U y, U s, U n1, U n0, U u32, U u1, U u0, U q, U r], [], 0⟩) ?_ (fun _ h => h) rfl rfl (canB_ok (by rfl))
    refine To.run (z := Zl) sound8 (nbB := 0) (blks := []) (bs := []) (fun dead => dvL5 dead y s n1 n0 u32 u1 u0 q r) rfl rfl rfl ?_ (canB_ok (by rfl)) (Nat.le_refl _)
    have hq2 : decide (q ≥ 4294967296) = false := by simp; omega
    simp only [hq2, c1', c2', all_ff, true_and, and_true, decide_eq_false_iff_not]
    exact ⟨by omega, ae_nil⟩
  | d + 1, q, r, hq, hr0, hr1, hq1, hd => by
    have n0a := h.n0a
    have n0b := h.n0b
    have u1a := h.u1a
    have u1b := h.u1b
    have n1a := h.n1a
    have n1b := h.n1b
    have nn := h.nn
    have lt := h.lt
    have hi := h.iff hq
    have hgt : (u32 * 4294967296 + u1) / y < q := by omega
    have f1 : wr .u64 (q - 1) = q - 1 := u64_in (by omega) (by omega)
    have f2 : wr .u64 (r + n1) = r + n1 := u64_in (by omega) (by omega)
    have hq' : (q - 1) * n1 + (r + n1) = u32 := by rw [← hq]; grind
    have key : ∀ (e : Ex), (r + n1 ≥ 4294967296 → e = .exit 0) → (¬ r + n1 ≥ 4294967296 → e = .normal) → To Try.prog 135 dvBody1 (dvS1 y s n1 n0 u32 u1 u0 q r) e (dvS1 y s n1 n0 u32 u1 u0 (q - 1) (r + n1)) := by
      intro e he1 he2
      refine To.weak (B := ⟨[2, 8, 9, 10, 11, 13, 14, 15, 16].zip [U y, U s, U n1, U n0, U u32, U u1, U u0, U (q - 1), U (r + n1)], [], 0⟩) ?_ (fun _ h => h) rfl rfl (canB_ok (by rfl))
      by_cases hqb : q ≥ 4294967296
      · by_cases hb : r + n1 ≥ 4294967296
        · rw [he1 hb]
          refine To.run (z := Zl) sound8 (nbB := 0) (blks := []) (bs := []) (fun dead => dvL1 dead y s n1 n0 u32 u1 u0 q r) rfl (by rw [f1, f2]; rfl) rfl ?_ (canB_ok (by rfl)) (Nat.le_refl _)
          simp only [f2, all_tt, decide_eq_true_eq, hqb, hb, true_and]
          exact ae_nil
        · rw [he2 hb]
          refine To.run (z := Zl) sound8 (nbB := 0) (blks := []) (bs := []) (fun dead => dvL2 dead y s n1 n0 u32 u1 u0 q r) rfl (by rw [f1, f2]; rfl) rfl ?_ (canB_ok (by rfl)) (Nat.le_refl _)
          simp only [f2, all_tt, all_ff, decide_eq_true_eq, decide_eq_false_iff_not, hqb, hb, true_and, not_false_eq_true]
          exact ae_nil
      · have p0 : 0 ≤ q * n0 := Int.mul_nonneg (by omega) n0a
        have p1 : q * n0 ≤ 4294967295 * 4294967295 := Int.mul_le_mul (by omega) (by omega) n0a (by omega)
        have c1' : wr .u64 (q * n0) = q * n0 := u64_in p0 (by omega)
        have c2' : wr .u64 (wr .u64 (4294967296 * r) + u1) = 4294967296 * r + u1 := by rw [wr_u, wr_u]; unfold u64; omega
        have hc := hi.2 hgt
        by_cases hb : r + n1 ≥ 4294967296
        · rw [he1 hb]
          refine To.run (z := Zl) sound8 (nbB := 0) (blks := []) (bs := []) (fun dead => dvL3 dead y s n1 n0 u32 u1 u0 q r) rfl (by rw [f1, f2]; rfl) rfl ?_ (canB_ok (by rfl)) (Nat.le_refl _)
          simp only [f2, c1', c2', all_tt, all_ff, decide_eq_true_eq, decide_eq_false_iff_not, hqb, hb, hc, true_and, not_false_eq_true]
          exact ae_nil
        · rw [he2 hb]
          refine To.run (z := Zl) sound8 (nbB := 0) (blks := []) (bs := []) (fun dead => dvL4 dead y s n1 n0 u32 u1 u0 q r) rfl (by rw [f1, f2]; rfl) rfl ?_ (canB_ok (by rfl)) (Nat.le_refl _)
          simp only [f2, c1', c2', all_tt, all_ff, decide_eq_true_eq, decide_eq_false_iff_not, hqb, hb, hc, true_and, not_false_eq_true]
          exact ae_nil
    by_cases hb : r + n1 ≥ 4294967296
    · have := h.brk hq hgt hb
      refine ⟨1, r + n1, Rd.last (by simp) ?_⟩
      rw [← this]
      exact key _ (fun _ => rfl) (fun h => absurd hb h)
    · obtain ⟨m, r', hm⟩ := dvRd1 (s := s) (u0 := u0) h d (q - 1) (r + n1) hq' (by omega) (by omega) (by omega) (by omega)
      exact ⟨m + 1, r', Rd.next (key _ (fun h => absurd h hb) (fun _ => rfl)) hm⟩

/-- The second digit's. -/
theorem dvRd2 {y s n1 n0 u21 u0 q1 : Int} (h : Dg y n1 n0 u21 u0) : ∀ (d : Nat) (q r : Int), q * n1 + r = u21 → 0 ≤ r → r < 4294967296 → q ≤ 8589934592 → q = (u21 * 4294967296 + u0) / y + d →
    ∃ m r', Rd Try.prog 135 dvBody2 m (dvS2 y s n1 n0 u0 q1 u21 q r) (.exit 2) (dvS2 y s n1 n0 u0 q1 u21 ((u21 * 4294967296 + u0) / y) r')
  | 0, q, r, hq, hr0, hr1, hq1, hd => by
    have n0a := h.n0a
    have n0b := h.n0b
    have u1a := h.u1a
    have u1b := h.u1b
    have nn := h.nn
    have lt := h.lt
    have hi := h.iff hq
    have hd' : q = (u21 * 4294967296 + u0) / y := by omega
    have p0 : 0 ≤ q * n0 := Int.mul_nonneg (by omega) n0a
    have p1 : q * n0 ≤ 4294967295 * 4294967295 := Int.mul_le_mul (by omega) (by omega) n0a (by omega)
    have c1' : wr .u64 (q * n0) = q * n0 := u64_in p0 (by omega)
    have c2' : wr .u64 (wr .u64 (4294967296 * r) + u0) = 4294967296 * r + u0 := by rw [wr_u, wr_u]; unfold u64; omega
    rw [← hd'] at hi ⊢
    refine ⟨1, r, Rd.last (by simp) ?_⟩
    refine To.weak (B := ⟨[2, 8, 9, 10, 14, 15, 17, 18, 16].zip [U y, U s, U n1, U n0, U u0, U q1, U u21, U q, U r], [], 0⟩) ?_ (fun _ h => h) rfl rfl (canB_ok (by rfl))
    refine To.run (z := Zl) sound8 (nbB := 0) (blks := []) (bs := []) (fun dead => dvN5 dead y s n1 n0 u0 q1 u21 q r) rfl rfl rfl ?_ (canB_ok (by rfl)) (Nat.le_refl _)
    have hq2 : decide (q ≥ 4294967296) = false := by simp; omega
    simp only [hq2, c1', c2', all_ff, true_and, and_true, decide_eq_false_iff_not]
    exact ⟨by omega, ae_nil⟩
  | d + 1, q, r, hq, hr0, hr1, hq1, hd => by
    have n0a := h.n0a
    have n0b := h.n0b
    have u1a := h.u1a
    have u1b := h.u1b
    have n1a := h.n1a
    have n1b := h.n1b
    have nn := h.nn
    have lt := h.lt
    have hi := h.iff hq
    have hgt : (u21 * 4294967296 + u0) / y < q := by omega
    have f1 : wr .u64 (q - 1) = q - 1 := u64_in (by omega) (by omega)
    have f2 : wr .u64 (r + n1) = r + n1 := u64_in (by omega) (by omega)
    have hq' : (q - 1) * n1 + (r + n1) = u21 := by rw [← hq]; grind
    have key : ∀ (e : Ex), (r + n1 ≥ 4294967296 → e = .exit 2) → (¬ r + n1 ≥ 4294967296 → e = .normal) → To Try.prog 135 dvBody2 (dvS2 y s n1 n0 u0 q1 u21 q r) e (dvS2 y s n1 n0 u0 q1 u21 (q - 1) (r + n1)) := by
      intro e he1 he2
      refine To.weak (B := ⟨[2, 8, 9, 10, 14, 15, 17, 18, 16].zip [U y, U s, U n1, U n0, U u0, U q1, U u21, U (q - 1), U (r + n1)], [], 0⟩) ?_ (fun _ h => h) rfl rfl (canB_ok (by rfl))
      by_cases hqb : q ≥ 4294967296
      · by_cases hb : r + n1 ≥ 4294967296
        · rw [he1 hb]
          refine To.run (z := Zl) sound8 (nbB := 0) (blks := []) (bs := []) (fun dead => dvN1 dead y s n1 n0 u0 q1 u21 q r) rfl (by rw [f1, f2]; rfl) rfl ?_ (canB_ok (by rfl)) (Nat.le_refl _)
          simp only [f2, all_tt, decide_eq_true_eq, hqb, hb, true_and]
          exact ae_nil
        · rw [he2 hb]
          refine To.run (z := Zl) sound8 (nbB := 0) (blks := []) (bs := []) (fun dead => dvN2 dead y s n1 n0 u0 q1 u21 q r) rfl (by rw [f1, f2]; rfl) rfl ?_ (canB_ok (by rfl)) (Nat.le_refl _)
          simp only [f2, all_tt, all_ff, decide_eq_true_eq, decide_eq_false_iff_not, hqb, hb, true_and, not_false_eq_true]
          exact ae_nil
      · have p0 : 0 ≤ q * n0 := Int.mul_nonneg (by omega) n0a
        have p1 : q * n0 ≤ 4294967295 * 4294967295 := Int.mul_le_mul (by omega) (by omega) n0a (by omega)
        have c1' : wr .u64 (q * n0) = q * n0 := u64_in p0 (by omega)
        have c2' : wr .u64 (wr .u64 (4294967296 * r) + u0) = 4294967296 * r + u0 := by rw [wr_u, wr_u]; unfold u64; omega
        have hc := hi.2 hgt
        by_cases hb : r + n1 ≥ 4294967296
        · rw [he1 hb]
          refine To.run (z := Zl) sound8 (nbB := 0) (blks := []) (bs := []) (fun dead => dvN3 dead y s n1 n0 u0 q1 u21 q r) rfl (by rw [f1, f2]; rfl) rfl ?_ (canB_ok (by rfl)) (Nat.le_refl _)
          simp only [f2, c1', c2', all_tt, all_ff, decide_eq_true_eq, decide_eq_false_iff_not, hqb, hb, hc, true_and, not_false_eq_true]
          exact ae_nil
        · rw [he2 hb]
          refine To.run (z := Zl) sound8 (nbB := 0) (blks := []) (bs := []) (fun dead => dvN4 dead y s n1 n0 u0 q1 u21 q r) rfl (by rw [f1, f2]; rfl) rfl ?_ (canB_ok (by rfl)) (Nat.le_refl _)
          simp only [f2, c1', c2', all_tt, all_ff, decide_eq_true_eq, decide_eq_false_iff_not, hqb, hb, hc, true_and, not_false_eq_true]
          exact ae_nil
    by_cases hb : r + n1 ≥ 4294967296
    · have := h.brk hq hgt hb
      refine ⟨1, r + n1, Rd.last (by simp) ?_⟩
      rw [← this]
      exact key _ (fun _ => rfl) (fun h => absurd hb h)
    · obtain ⟨m, r', hm⟩ := dvRd2 (s := s) (q1 := q1) h d (q - 1) (r + n1) hq' (by omega) (by omega) (by omega) (by omega)
      exact ⟨m + 1, r', Rd.next (key _ (fun h => absurd h hb) (fun _ => rfl)) hm⟩

def div64S : List LV → Option (LV × List (Bool × Bool))
  | [.v (.one (.int .u64 h)), .v (.one (.int .u64 l)), .v (.one (.int .u64 y))] => some (.tup [.one (.int .u64 (wVal h l / y)), .one (.int .u64 (wVal h l % y))], [(isU h, true), (isU l, true), (isU y, true), (decide (h < y), true)])
  | _ => none

theorem tdiv_pos {a b : Int} (h : 0 ≤ a) : a.tdiv b = a / b := Int.tdiv_eq_ediv_of_nonneg h
theorem tmod_pos {a b : Int} (h : 0 ≤ a) : a.tmod b = a % b := Int.tmod_eq_emod_of_nonneg h

/-- The first estimate of a digit. -/
theorem dg_est {y n1 n0 u u1 : Int} (h : Dg y n1 n0 u u1) (hu : u < 18446744073709551616) : u / n1 * n1 + u % n1 = u ∧ 0 ≤ u % n1 ∧ u % n1 < 4294967296 ∧ u / n1 ≤ 8589934592 ∧ ∃ d : Nat, u / n1 = (u * 4294967296 + u1) / y + d := by
  have n1a := h.n1a
  have n1b := h.n1b
  have ua := h.ua
  have e := Int.emod_add_mul_ediv u n1
  have m0 := Int.emod_nonneg u (show n1 ≠ 0 by omega)
  have m1 := Int.emod_lt_of_pos u (show 0 < n1 by omega)
  have e' : u / n1 * n1 + u % n1 = u := by rw [Int.mul_comm]; omega
  have hd : u / n1 < 8589934593 := Int.ediv_lt_of_lt_mul (by omega) (by omega)
  refine ⟨e', m0, by omega, by omega, ?_⟩
  have hi := h.iff (q := u / n1 + 1) (r := u % n1 - n1) (by rw [Int.add_mul]; omega)
  have hlt : (u * 4294967296 + u1) / y < u / n1 + 1 := by
    rw [← hi]
    have : 0 ≤ (u / n1 + 1) * n0 := Int.mul_nonneg (by have := Int.ediv_nonneg ua (show 0 ≤ n1 by omega); omega) h.n0a
    have := h.u1b
    omega
  have nn := h.nn
  exact ⟨(u / n1 - (u * 4294967296 + u1) / y).toNat, by omega⟩

theorem sumDiv64 : SumOK Try.prog 144 (pureSum div64S) := by
  refine pureSum_ok fun args v cs hF hc w => ?_
  unfold div64S at hF
  split at hF
  · rename_i h l y0
    cases hF
    simp only [all_tt, isU_iff, decide_eq_true_eq] at hc
    obtain ⟨⟨hh0, hh1⟩, ⟨hl0, hl1⟩, ⟨hy0, hy1⟩, hlt, -⟩ := hc
    have hypos : 0 < y0 := by omega
    have a1 : (y0 == 0) = false := by simp; omega
    have a2 : decide (y0 ≤ h) = false := by simp; omega
    refine callOK_of (own_of sound8 Try.func144 (by kernel_rfl)) ?_
    by_cases hz : h = 0
    · subst hz
      have hv : wVal 0 l = l := by unfold wVal; omega
      rw [hv]
      have q0 : 0 ≤ l / y0 := Int.ediv_nonneg hl0 hy0
      have q1 : l / y0 ≤ l := Int.ediv_le_self _ hl0
      refine calls_pure (c := bodyF Try.prog 144) (e := .ret) (B := ⟨[(6, U (l / y0)), (7, U (l % y0))], [], 0⟩) Try.func144 (by kernel_rfl) (Nat.le_of_ble_eq_true (by kernel_rfl)) (Nat.le_of_ble_eq_true (by kernel_rfl)) rfl ?_ (.inr rfl) (fun dead => by kernel_rfl) rfl w
      refine To.weak (B := ⟨[6, 7].zip [U (l / y0), U (l % y0)], [], 0⟩) ?_ (fun _ h => h) rfl rfl (canB_ok (by rfl))
      refine To.run (z := Zl) sound8 (nbB := 0) (blks := []) (bs := []) (fun dead => dvZ dead 0 l y0) rfl (by rw [tdiv_pos hl0, tmod_pos hl0, wr_u, u64_in q0 (by omega)]; rfl) rfl ?_ (canB_ok (by rfl)) (Nat.le_refl _)
      simp only [all_tt, all_ff, a1, a2, decide_eq_false_iff_not, true_and, beq_self_eq_true]
      exact ⟨by omega, by omega, ae_nil⟩
    · obtain ⟨s0, s1, k0, k1⟩ := lzV_spec hypos hy1
      have w1 : wr .u64 (lzV y0) = lzV y0 := u64_in s0 (by omega)
      have w2 : wr .u64 (64 - lzV y0) = 64 - lzV y0 := u64_in (by omega) (by omega)
      have w3 : min (lzV y0).toNat IntKind.u64.bits = (lzV y0).toNat := min64 s0 (by omega)
      have w4 : min (64 - lzV y0).toNat IntKind.u64.bits = (64 - lzV y0).toNat := min64 (by omega) (by omega)
      have hpq : pow2 (lzV y0).toNat * pow2 (64 - lzV y0).toNat = 18446744073709551616 := by rw [← pow2_add, ← pow2_64]; congr 1; omega
      obtain ⟨g1, g2, g3, g4, g5, g6, g7, g8⟩ := shl_lt h l _ _ (pow2_pos _) (pow2_pos _) hpq hl0 hl1
      have hp := pow2_pos (lzV y0).toNat
      have hq := pow2_pos (64 - lzV y0).toNat
      have hior := (ior_add _ _ _ g8 g5 g6 g7).1
      generalize hsv : lzV y0 = s at *
      generalize hpv : pow2 s.toNat = p at *
      generalize hqv : pow2 (64 - s).toNat = q at *
      have w5 : wr .u64 (y0 * p) = y0 * p := u64_in (by omega) k1
      have hVlt : wVal h l * p < 340282366920938463463374607431768211456 := by
        have e : wVal h l < y0 * 18446744073709551616 := by
          unfold wVal
          have : (h + 1) * 18446744073709551616 ≤ y0 * 18446744073709551616 := Int.mul_le_mul_of_nonneg_right (by omega) (by omega)
          omega
        have e2 : wVal h l * p ≤ y0 * 18446744073709551616 * p := Int.mul_le_mul_of_nonneg_right (by omega) (by omega)
        have e3 : y0 * 18446744073709551616 * p = y0 * p * 18446744073709551616 := by grind
        rw [e3] at e2
        omega
      have hV0 : 0 ≤ wVal h l * p := Int.mul_nonneg (by unfold wVal; omega) (by omega)
      have hVm : wVal h l * p % 340282366920938463463374607431768211456 = wVal h l * p := by omega
      rw [hVm] at g1 g2
      -- the dividend, shifted
      generalize hX : wVal h l * p = X at *
      have x32 : Int.ofNat ((u64 (wr .u64 (h * p))).toNat.lor (u64 (l / q)).toNat) = wHi X := by rw [wr_u, g3, g1]; exact hior
      have x10 : wr .u64 (l * p) = wLo X := by rw [wr_u, g4, g2]
      have u32b : wHi X < y0 * p := by
        have e : X < y0 * p * 18446744073709551616 := by
          rw [← hX]
          have e0 : wVal h l < y0 * 18446744073709551616 := by
            unfold wVal
            have : (h + 1) * 18446744073709551616 ≤ y0 * 18446744073709551616 := Int.mul_le_mul_of_nonneg_right (by omega) (by omega)
            omega
          have e2 : wVal h l * p < y0 * 18446744073709551616 * p := Int.mul_lt_mul_of_pos_right e0 hp
          have e3 : y0 * 18446744073709551616 * p = y0 * p * 18446744073709551616 := by grind
          omega
        unfold wHi; omega
      have xlo := wLo_in X
      have u0a : 0 ≤ wHi X := by unfold wHi; omega
      have land1 : Int.ofNat ((u64 (wLo X)).toNat.land (u64 4294967295).toNat) = wLo X % 4294967296 := land32 _ xlo.1 xlo.2
      have hyv0 : 9223372036854775808 ≤ y0 * p := k0
      have land2 : Int.ofNat ((u64 (y0 * p)).toNat.land (u64 4294967295).toNat) = y0 * p % 4294967296 := land32 _ (by omega) k1
      generalize hY : y0 * p = y at *
      have hDg1 : Dg y (y / 4294967296) (y % 4294967296) (wHi X) (wLo X / 4294967296) := ⟨by omega, by omega, by omega, by omega, by omega, u0a, u32b, by omega, by omega⟩
      have hXv : X = (wHi X * 4294967296 + wLo X / 4294967296) * 4294967296 + wLo X % 4294967296 := by unfold wHi wLo; omega
      obtain ⟨D1, D2⟩ := div_digits (V := wVal h l) (p := p) (y0 := y0) (y := y) hp hypos hY.symm (hX.trans hXv)
      generalize wHi X = u32 at *
      generalize hu1 : wLo X / 4294967296 = u1 at *
      generalize hu0 : wLo X % 4294967296 = u0 at *
      have hn1 : y / pow2 (min (Int.toNat 32) IntKind.u64.bits) = y / 4294967296 := by rw [pow2_32u]
      have hu0a : 0 ≤ u0 ∧ u0 < 4294967296 := by omega
      obtain ⟨E1, E2, E3, E4, d1, E5⟩ := dg_est hDg1 (by omega)
      generalize hN1 : y / 4294967296 = n1 at *
      generalize hN0 : y % 4294967296 = n0 at *
      obtain ⟨m1, r1, hR1⟩ := dvRd1 (s := s) (u0 := u0) hDg1 d1 _ _ E1 E2 E3 E4 E5
      have nn1 := hDg1.nn
      have lt1 := hDg1.lt
      have ypos := hDg1.ypos
      have m0 := Int.emod_nonneg (u32 * 4294967296 + u1) (show y ≠ 0 by omega)
      have m1' := Int.emod_lt_of_pos (u32 * 4294967296 + u1) ypos
      have emd := Int.emod_add_mul_ediv (u32 * 4294967296 + u1) y
      generalize hq1 : (u32 * 4294967296 + u1) / y = q1 at *
      generalize hu21 : (u32 * 4294967296 + u1) % y = u21 at *
      have hDg2 : Dg y n1 n0 u21 u0 := ⟨hDg1.yd, hDg1.n1a, hDg1.n1b, hDg1.n0a, hDg1.n0b, m0, m1', hu0a.1, hu0a.2⟩
      obtain ⟨F1, F2, F3, F4, d2, F5⟩ := dg_est hDg2 (by omega)
      obtain ⟨m2, r2, hR2⟩ := dvRd2 (s := s) (q1 := q1) hDg2 d2 _ _ F1 F2 F3 F4 F5
      have nn2 := hDg2.nn
      have lt2 := hDg2.lt
      have m2a := Int.emod_nonneg (u21 * 4294967296 + u0) (show y ≠ 0 by omega)
      have m2b := Int.emod_lt_of_pos (u21 * 4294967296 + u0) ypos
      have emd2 := Int.emod_add_mul_ediv (u21 * 4294967296 + u0) y
      have n1a := hDg1.n1a
      have n1b := hDg1.n1b
      -- the values, as the machine has them
      have v1 : wr .u64 (u32.tdiv n1) = u32 / n1 := by rw [tdiv_pos u0a, wr_u]; exact u64_in (Int.ediv_nonneg u0a (by omega)) (by omega)
      have v2 : wr .u64 (u32 - wr .u64 (u32 / n1 * n1)) = u32 % n1 := by
        simp only [wr_u]
        generalize u32 / n1 * n1 = t at *
        unfold u64; omega
      have v3 : wr .u64 (wr .u64 (wr .u64 (u32 * 4294967296) + u1) - wr .u64 (q1 * y)) = u21 := by
        simp only [wr_u]
        have e : y * q1 = q1 * y := Int.mul_comm _ _
        rw [e] at emd
        generalize q1 * y = t at *
        unfold u64; omega
      have v4 : wr .u64 (u21.tdiv n1) = u21 / n1 := by rw [tdiv_pos m0, wr_u]; exact u64_in (Int.ediv_nonneg m0 (by omega)) (by omega)
      have v5 : wr .u64 (u21 - wr .u64 (u21 / n1 * n1)) = u21 % n1 := by
        simp only [wr_u]
        generalize u21 / n1 * n1 = t at *
        unfold u64; omega
      have v6 : wr .u64 (wr .u64 (q1 * 4294967296) + (u21 * 4294967296 + u0) / y) = wVal h l / y0 := by
        rw [← D1]
        simp only [wr_u]
        unfold u64; omega
      have v7 : wr .u64 (wr .u64 (wr .u64 (u21 * 4294967296) + u0) - wr .u64 ((u21 * 4294967296 + u0) / y * y)) / p = wVal h l % y0 := by
        rw [← D2]
        congr 1
        simp only [wr_u]
        have e : y * ((u21 * 4294967296 + u0) / y) = (u21 * 4294967296 + u0) / y * y := Int.mul_comm _ _
        rw [e] at emd2
        generalize (u21 * 4294967296 + u0) / y * y = t at *
        unfold u64; omega
      refine calls_pure (c := bodyF Try.prog 144) (e := .ret) (B := ⟨[(6, U (wVal h l / y0)), (7, U (wVal h l % y0))], [], 0⟩) Try.func144 (by kernel_rfl) (Nat.le_of_ble_eq_true (by kernel_rfl)) (Nat.le_of_ble_eq_true (by kernel_rfl)) rfl ?_ (.inr rfl) (fun dead => by kernel_rfl) rfl w
      refine To.spineR (z := Zl) sound8 (k := 14) (nbB := 0) (blks := []) (bs := []) (by kernel_rfl) (fun dead => dvA dead h l y0) rfl
        (vs := [U y, U s, U n1, U n0, U u32, U u1, U u0, U (u32 / n1), U (u32 % n1)]) ?_ rfl ?_ (canB_ok (by rfl)) (Nat.le_refl _) ?_
      · simp only [hsv, w1, w2, w3, w4, hpv, hqv, w5, hY, x32, x10, pow2_32u, land1, land2, hN1, hu1, hu0, hN0, v1, v2]
        rfl
      · simp only [hsv, w1, w2, w3, w4, hpv, hqv, w5, hY, pow2_32u, hN1, all_tt, all_ff, isU_iff, decide_eq_true_eq, a1, a2, decide_eq_false_iff_not, true_and]
        refine ⟨by omega, by omega, by omega, by omega, by omega, ⟨hy0, hy1⟩, hypos, by simpa using hz, ae_nil⟩
      · refine To.seq (by kernel_rfl) (To.block (id := 0) (by kernel_rfl) (To.loop (by kernel_rfl) hR1) (.inl rfl)) ?_
        refine To.spineR (z := Zl) sound8 (k := 3) (nbB := 0) (blks := []) (bs := []) (by kernel_rfl) (fun dead => dvM dead y s n1 n0 u32 u1 u0 q1 r1) rfl
          (vs := [U y, U s, U n1, U n0, U u0, U q1, U u21, U (u21 / n1), U (u21 % n1)]) ?_ rfl ?_ (canB_ok (by rfl)) (Nat.le_refl _) ?_
        · simp only [v3, v4, v5]; rfl
        · simp only [all_ff, decide_eq_false_iff_not]; exact ⟨by omega, ae_nil⟩
        · refine To.seq (by kernel_rfl) (To.block (id := 2) (by kernel_rfl) (To.loop (by kernel_rfl) hR2) (.inl rfl)) ?_
          refine To.weak (B := ⟨[6, 7].zip [U (wVal h l / y0), U (wVal h l % y0)], [], 0⟩) ?_ (fun _ h => h) rfl rfl (canB_ok (by rfl))
          refine To.run (z := Zl) sound8 (nbB := 0) (blks := []) (bs := []) (fun dead => dvE dead y s n1 n0 u0 q1 u21 _ r2) rfl ?_ rfl ?_ (canB_ok (by rfl)) (Nat.le_refl _)
          · simp only [w3, hpv, v6, v7]; rfl
          · simp only [all_ff, decide_eq_false_iff_not]; exact ⟨by omega, ae_nil⟩
  · cases hF

def S9 : FuncId → Option SumK := more (more S8 127 (pureSum rootS)) 144 (pureSum div64S)
theorem sound9 : Sound Try.prog S9 := (sound8.more sumRoot).more sumDiv64
end Go.Proofs.Ytnabopepomjncaa

/- wide.Div: by every path of its run (printed), and what it comes to. -/
namespace Go.Proofs.Ytnabopepomjncaa
open Go.Lr
set_option linter.unusedVariables false
set_option linter.unusedSimpArgs false

theorem wdivR1 (x y d : Int) : (runF Try.prog S9 Zl 2000 125 [.v (.agg [.int .i64 x, .int .u64 y]), .v (.one (.int .i64 d))] [] 0 [some true]).map (fun r => (r.1, r.2.2.2)) = some (LV.tup [V1.one (At.int IntKind.i64 0), V1.one (At.bool false)], [(d == 0, true)]) := by kernel_rfl
theorem wdivR2 (x y d : Int) : (runF Try.prog S9 Zl 2000 125 [.v (.agg [.int .i64 x, .int .u64 y]), .v (.one (.int .i64 d))] [] 0 [some false, some true]).map (fun r => (r.1, r.2.2.2)) = some (LV.tup [V1.one (At.int IntKind.i64 (if isI (sgn (!decide (wVal x y < 0) == decide (d < 0)) (wVal (wHi ((wVal (wr IntKind.u64 ((wHi (absV (wVal x y))).tdiv (absV d))) (wVal ((wHi (absV (wVal x y))).tmod (absV d)) (wLo (absV (wVal x y))) / absV d) + wVal 0 1) % 340282366920938463463374607431768211456)) (wLo ((wVal (wr IntKind.u64 ((wHi (absV (wVal x y))).tdiv (absV d))) (wVal ((wHi (absV (wVal x y))).tmod (absV d)) (wLo (absV (wVal x y))) / absV d) + wVal 0 1) % 340282366920938463463374607431768211456)))) = true then sgn (!decide (wVal x y < 0) == decide (d < 0)) (wVal (wHi ((wVal (wr IntKind.u64 ((wHi (absV (wVal x y))).tdiv (absV d))) (wVal ((wHi (absV (wVal x y))).tmod (absV d)) (wLo (absV (wVal x y))) / absV d) + wVal 0 1) % 340282366920938463463374607431768211456)) (wLo ((wVal (wr IntKind.u64 ((wHi (absV (wVal x y))).tdiv (absV d))) (wVal ((wHi (absV (wVal x y))).tmod (absV d)) (wLo (absV (wVal x y))) / absV d) + wVal 0 1) % 340282366920938463463374607431768211456))) else 0)), V1.one (At.bool (isI (sgn (!decide (wVal x y < 0) == decide (d < 0)) (wVal (wHi ((wVal (wr IntKind.u64 ((wHi (absV (wVal x y))).tdiv (absV d))) (wVal ((wHi (absV (wVal x y))).tmod (absV d)) (wLo (absV (wVal x y))) / absV d) + wVal 0 1) % 340282366920938463463374607431768211456)) (wLo ((wVal (wr IntKind.u64 ((wHi (absV (wVal x y))).tdiv (absV d))) (wVal ((wHi (absV (wVal x y))).tmod (absV d)) (wLo (absV (wVal x y))) / absV d) + wVal 0 1) % 340282366920938463463374607431768211456))))))], [(isU (wHi ((wVal (wr IntKind.u64 ((wHi (absV (wVal x y))).tdiv (absV d))) (wVal ((wHi (absV (wVal x y))).tmod (absV d)) (wLo (absV (wVal x y))) / absV d) + wVal 0 1) % 340282366920938463463374607431768211456)), true), (isU (wLo ((wVal (wr IntKind.u64 ((wHi (absV (wVal x y))).tdiv (absV d))) (wVal ((wHi (absV (wVal x y))).tmod (absV d)) (wLo (absV (wVal x y))) / absV d) + wVal 0 1) % 340282366920938463463374607431768211456)), true), (isU (wr IntKind.u64 ((wHi (absV (wVal x y))).tdiv (absV d))), true), (isU (wVal ((wHi (absV (wVal x y))).tmod (absV d)) (wLo (absV (wVal x y))) / absV d), true), (isU 0, true), (isU 1, true), (decide (wVal ((wHi (absV (wVal x y))).tmod (absV d)) (wLo (absV (wVal x y))) % absV d ≥ wr IntKind.u64 (absV d - wVal ((wHi (absV (wVal x y))).tmod (absV d)) (wLo (absV (wVal x y))) % absV d)), true), (isU ((wHi (absV (wVal x y))).tmod (absV d)), true), (isU (wLo (absV (wVal x y))), true), (isU (absV d), true), (decide ((wHi (absV (wVal x y))).tmod (absV d) < absV d), true), (decide (absV d = 0), false), (decide (absV d = 0), false), (isI d, true), (isI x, true), (isU y, true), (d == 0, false)]) := by kernel_rfl
theorem wdivR3 (x y d : Int) : (runF Try.prog S9 Zl 2000 125 [.v (.agg [.int .i64 x, .int .u64 y]), .v (.one (.int .i64 d))] [] 0 [some false, some false]).map (fun r => (r.1, r.2.2.2)) = some (LV.tup [V1.one (At.int IntKind.i64 (if isI (sgn (!decide (wVal x y < 0) == decide (d < 0)) (wVal (wr IntKind.u64 ((wHi (absV (wVal x y))).tdiv (absV d))) (wVal ((wHi (absV (wVal x y))).tmod (absV d)) (wLo (absV (wVal x y))) / absV d))) = true then sgn (!decide (wVal x y < 0) == decide (d < 0)) (wVal (wr IntKind.u64 ((wHi (absV (wVal x y))).tdiv (absV d))) (wVal ((wHi (absV (wVal x y))).tmod (absV d)) (wLo (absV (wVal x y))) / absV d)) else 0)), V1.one (At.bool (isI (sgn (!decide (wVal x y < 0) == decide (d < 0)) (wVal (wr IntKind.u64 ((wHi (absV (wVal x y))).tdiv (absV d))) (wVal ((wHi (absV (wVal x y))).tmod (absV d)) (wLo (absV (wVal x y))) / absV d)))))], [(isU (wr IntKind.u64 ((wHi (absV (wVal x y))).tdiv (absV d))), true), (isU (wVal ((wHi (absV (wVal x y))).tmod (absV d)) (wLo (absV (wVal x y))) / absV d), true), (decide (wVal ((wHi (absV (wVal x y))).tmod (absV d)) (wLo (absV (wVal x y))) % absV d ≥ wr IntKind.u64 (absV d - wVal ((wHi (absV (wVal x y))).tmod (absV d)) (wLo (absV (wVal x y))) % absV d)), false), (isU ((wHi (absV (wVal x y))).tmod (absV d)), true), (isU (wLo (absV (wVal x y))), true), (isU (absV d), true), (decide ((wHi (absV (wVal x y))).tmod (absV d) < absV d), true), (decide (absV d = 0), false), (decide (absV d = 0), false), (isI d, true), (isI x, true), (isU y, true), (d == 0, false)]) := by kernel_rfl
def wdivT (x y d : Int) : Option (LV × List (Bool × Bool)) := 
  bif (d == 0) then some (LV.tup [V1.one (At.int IntKind.i64 0), V1.one (At.bool false)], [])
  else 
    bif (decide (wVal ((wHi (absV (wVal x y))).tmod (absV d)) (wLo (absV (wVal x y))) % absV d ≥ wr IntKind.u64 (absV d - wVal ((wHi (absV (wVal x y))).tmod (absV d)) (wLo (absV (wVal x y))) % absV d))) then some (LV.tup [V1.one (At.int IntKind.i64 (if isI (sgn (!decide (wVal x y < 0) == decide (d < 0)) (wVal (wHi ((wVal (wr IntKind.u64 ((wHi (absV (wVal x y))).tdiv (absV d))) (wVal ((wHi (absV (wVal x y))).tmod (absV d)) (wLo (absV (wVal x y))) / absV d) + wVal 0 1) % 340282366920938463463374607431768211456)) (wLo ((wVal (wr IntKind.u64 ((wHi (absV (wVal x y))).tdiv (absV d))) (wVal ((wHi (absV (wVal x y))).tmod (absV d)) (wLo (absV (wVal x y))) / absV d) + wVal 0 1) % 340282366920938463463374607431768211456)))) = true then sgn (!decide (wVal x y < 0) == decide (d < 0)) (wVal (wHi ((wVal (wr IntKind.u64 ((wHi (absV (wVal x y))).tdiv (absV d))) (wVal ((wHi (absV (wVal x y))).tmod (absV d)) (wLo (absV (wVal x y))) / absV d) + wVal 0 1) % 340282366920938463463374607431768211456)) (wLo ((wVal (wr IntKind.u64 ((wHi (absV (wVal x y))).tdiv (absV d))) (wVal ((wHi (absV (wVal x y))).tmod (absV d)) (wLo (absV (wVal x y))) / absV d) + wVal 0 1) % 340282366920938463463374607431768211456))) else 0)), V1.one (At.bool (isI (sgn (!decide (wVal x y < 0) == decide (d < 0)) (wVal (wHi ((wVal (wr IntKind.u64 ((wHi (absV (wVal x y))).tdiv (absV d))) (wVal ((wHi (absV (wVal x y))).tmod (absV d)) (wLo (absV (wVal x y))) / absV d) + wVal 0 1) % 340282366920938463463374607431768211456)) (wLo ((wVal (wr IntKind.u64 ((wHi (absV (wVal x y))).tdiv (absV d))) (wVal ((wHi (absV (wVal x y))).tmod (absV d)) (wLo (absV (wVal x y))) / absV d) + wVal 0 1) % 340282366920938463463374607431768211456))))))], [(isU (wHi ((wVal (wr IntKind.u64 ((wHi (absV (wVal x y))).tdiv (absV d))) (wVal ((wHi (absV (wVal x y))).tmod (absV d)) (wLo (absV (wVal x y))) / absV d) + wVal 0 1) % 340282366920938463463374607431768211456)), true), (isU (wLo ((wVal (wr IntKind.u64 ((wHi (absV (wVal x y))).tdiv (absV d))) (wVal ((wHi (absV (wVal x y))).tmod (absV d)) (wLo (absV (wVal x y))) / absV d) + wVal 0 1) % 340282366920938463463374607431768211456)), true), (isU (wr IntKind.u64 ((wHi (absV (wVal x y))).tdiv (absV d))), true), (isU (wVal ((wHi (absV (wVal x y))).tmod (absV d)) (wLo (absV (wVal x y))) / absV d), true), (isU 0, true), (isU 1, true), (isU ((wHi (absV (wVal x y))).tmod (absV d)), true), (isU (wLo (absV (wVal x y))), true), (isU (absV d), true), (decide ((wHi (absV (wVal x y))).tmod (absV d) < absV d), true), (decide (absV d = 0), false), (isI d, true), (isI x, true), (isU y, true)])
    else some (LV.tup [V1.one (At.int IntKind.i64 (if isI (sgn (!decide (wVal x y < 0) == decide (d < 0)) (wVal (wr IntKind.u64 ((wHi (absV (wVal x y))).tdiv (absV d))) (wVal ((wHi (absV (wVal x y))).tmod (absV d)) (wLo (absV (wVal x y))) / absV d))) = true then sgn (!decide (wVal x y < 0) == decide (d < 0)) (wVal (wr IntKind.u64 ((wHi (absV (wVal x y))).tdiv (absV d))) (wVal ((wHi (absV (wVal x y))).tmod (absV d)) (wLo (absV (wVal x y))) / absV d)) else 0)), V1.one (At.bool (isI (sgn (!decide (wVal x y < 0) == decide (d < 0)) (wVal (wr IntKind.u64 ((wHi (absV (wVal x y))).tdiv (absV d))) (wVal ((wHi (absV (wVal x y))).tmod (absV d)) (wLo (absV (wVal x y))) / absV d)))))], [(isU (wr IntKind.u64 ((wHi (absV (wVal x y))).tdiv (absV d))), true), (isU (wVal ((wHi (absV (wVal x y))).tmod (absV d)) (wLo (absV (wVal x y))) / absV d), true), (isU ((wHi (absV (wVal x y))).tmod (absV d)), true), (isU (wLo (absV (wVal x y))), true), (isU (absV d), true), (decide ((wHi (absV (wVal x y))).tmod (absV d) < absV d), true), (decide (absV d = 0), false), (isI d, true), (isI x, true), (isU y, true)])
def wdivF : List LV → Option (LV × List (Bool × Bool))
  | [.v (.agg [.int .i64 x, .int .u64 y]), .v (.one (.int .i64 d))] => wdivT x y d
  | _ => none
theorem sumwdiv : SumOK Try.prog 125 (pureSum wdivF) := by
  refine pureSum_run (z := Zl) sound9 (own_of sound9 Try.func125 (by kernel_rfl)) fun args v cs hF hc => ?_
  unfold wdivF at hF
  split at hF
  · rename_i x y d
    unfold wdivT at hF
    rcases bool_cases (d == 0) with h0 | h0
    · rw [cond_t h0] at hF
      cases hF
      exact ⟨2000, [some true], _, wdivR1 x y d, ae_cons (h0) (ae_nil)⟩
    · rw [cond_f h0] at hF
      rcases bool_cases (decide (wVal ((wHi (absV (wVal x y))).tmod (absV d)) (wLo (absV (wVal x y))) % absV d ≥ wr IntKind.u64 (absV d - wVal ((wHi (absV (wVal x y))).tmod (absV d)) (wLo (absV (wVal x y))) % absV d))) with h1 | h1
      · rw [cond_t h1] at hF
        cases hF
        exact ⟨2000, [some false, some true], _, wdivR2 x y d, ae_cons (hd_of (hc)) (ae_cons (hd_of (tl_of (hc))) (ae_cons (hd_of (tl_of (tl_of (hc)))) (ae_cons (hd_of (tl_of (tl_of (tl_of (hc))))) (ae_cons (hd_of (tl_of (tl_of (tl_of (tl_of (hc)))))) (ae_cons (hd_of (tl_of (tl_of (tl_of (tl_of (tl_of (hc))))))) (ae_cons (h1) (ae_cons (hd_of (tl_of (tl_of (tl_of (tl_of (tl_of (tl_of (hc)))))))) (ae_cons (hd_of (tl_of (tl_of (tl_of (tl_of (tl_of (tl_of (tl_of (hc))))))))) (ae_cons (hd_of (tl_of (tl_of (tl_of (tl_of (tl_of (tl_of (tl_of (tl_of (hc)))))))))) (ae_cons (hd_of (tl_of (tl_of (tl_of (tl_of (tl_of (tl_of (tl_of (tl_of (tl_of (hc))))))))))) (ae_cons (hd_of (tl_of (tl_of (tl_of (tl_of (tl_of (tl_of (tl_of (tl_of (tl_of (tl_of (hc)))))))))))) (ae_cons (hd_of (tl_of (tl_of (tl_of (tl_of (tl_of (tl_of (tl_of (tl_of (tl_of (tl_of (hc)))))))))))) (ae_cons (hd_of (tl_of (tl_of (tl_of (tl_of (tl_of (tl_of (tl_of (tl_of (tl_of (tl_of (tl_of (hc))))))))))))) (ae_cons (hd_of (tl_of (tl_of (tl_of (tl_of (tl_of (tl_of (tl_of (tl_of (tl_of (tl_of (tl_of (tl_of (hc)))))))))))))) (ae_cons (hd_of (tl_of (tl_of (tl_of (tl_of (tl_of (tl_of (tl_of (tl_of (tl_of (tl_of (tl_of (tl_of (tl_of (hc))))))))))))))) (ae_cons (h0) (ae_nil)))))))))))))))))⟩
      · rw [cond_f h1] at hF
        cases hF
        exact ⟨2000, [some false, some false], _, wdivR3 x y d, ae_cons (hd_of (hc)) (ae_cons (hd_of (tl_of (hc))) (ae_cons (h1) (ae_cons (hd_of (tl_of (tl_of (hc)))) (ae_cons (hd_of (tl_of (tl_of (tl_of (hc))))) (ae_cons (hd_of (tl_of (tl_of (tl_of (tl_of (hc)))))) (ae_cons (hd_of (tl_of (tl_of (tl_of (tl_of (tl_of (hc))))))) (ae_cons (hd_of (tl_of (tl_of (tl_of (tl_of (tl_of (tl_of (hc)))))))) (ae_cons (hd_of (tl_of (tl_of (tl_of (tl_of (tl_of (tl_of (hc)))))))) (ae_cons (hd_of (tl_of (tl_of (tl_of (tl_of (tl_of (tl_of (tl_of (hc))))))))) (ae_cons (hd_of (tl_of (tl_of (tl_of (tl_of (tl_of (tl_of (tl_of (tl_of (hc)))))))))) (ae_cons (hd_of (tl_of (tl_of (tl_of (tl_of (tl_of (tl_of (tl_of (tl_of (tl_of (hc))))))))))) (ae_cons (h0) (ae_nil)))))))))))))⟩
  · cases hF


theorem long_div {B b : Int} (hb : 0 < b) : wVal (wHi B / b) (wVal (wHi B % b) (wLo B) / b) = B / b ∧ wVal (wHi B % b) (wLo B) % b = B % b := by
  have e1 := Int.emod_add_mul_ediv (wHi B) b
  have e2 := Int.emod_add_mul_ediv (wVal (wHi B % b) (wLo B)) b
  have m0 := Int.emod_nonneg (wVal (wHi B % b) (wLo B)) (show b ≠ 0 by omega)
  have m1 := Int.emod_lt_of_pos (wVal (wHi B % b) (wLo B)) hb
  have e3 := wVal_mk B
  generalize hq : wHi B / b = q at *
  generalize hr : wHi B % b = r at *
  generalize ht : wVal r (wLo B) / b = t at *
  generalize hs : wVal r (wLo B) % b = s at *
  have e4 : B = wVal q t * b + s := by
    have : B = wHi B * 18446744073709551616 + wLo B := by rw [← e3]; simp only [hi_mk _ _ (wLo_in B).1 (wLo_in B).2, lo_mk _ _ (wLo_in B).1 (wLo_in B).2]; rfl
    rw [this, ← e1]
    have e5 : wVal r (wLo B) = r * 18446744073709551616 + wLo B := rfl
    rw [e5] at e2
    unfold wVal
    grind
  exact ⟨(ediv_unique e4 m0 m1).symm, (emod_unique e4 m0 m1).symm⟩

def divS : List LV → Option (LV × List (Bool × Bool))
  | [.v (.agg [.int .i64 x, .int .u64 y]), .v (.one (.int .i64 d))] =>
    bif (d == 0) then some (.tup [.one (.int .i64 0), .one (.bool false)], [])
    else some (.tup [.one (.int .i64 (if isI (divV (wVal x y) d) = true then divV (wVal x y) d else 0)), .one (.bool (isI (divV (wVal x y) d)))], [(isI x, true), (isU y, true), (isI d, true)])
  | _ => none

theorem sumDiv : SumOK Try.prog 125 (pureSum divS) := by
  refine sumwdiv.pure_re fun args v cs hF hc => ?_
  unfold divS at hF
  split at hF
  · rename_i x y d
    rcases bool_cases (d == 0) with hd | hd
    · rw [cond_t hd] at hF
      cases hF
      exact ⟨[], cond_t hd, ae_nil⟩
    · rw [cond_f hd] at hF
      cases hF
      simp only [all_tt, isI_iff, isU_iff] at hc
      obtain ⟨⟨hx0, hx1⟩, ⟨hy0, hy1⟩, ⟨hd0, hd1⟩, -⟩ := hc
      show ∃ cs', wdivT x y d = _ ∧ _
      have hdn : d ≠ 0 := by simpa using hd
      have hv0 : -170141183460469231731687303715884105728 ≤ wVal x y := by unfold wVal; omega
      have hv1 : wVal x y < 170141183460469231731687303715884105728 := by unfold wVal; omega
      have hB0 := absV_nn (wVal x y)
      have hB1 : absV (wVal x y) ≤ 170141183460469231731687303715884105728 := by unfold absV; split <;> omega
      have hb0 : 0 < absV d := by unfold absV; split <;> omega
      have hb1 : absV d ≤ 9223372036854775808 := absI hd0 hd1
      have hdef : divV (wVal x y) d = sgn (!decide (wVal x y < 0) == decide (d < 0)) (quoR (absV (wVal x y)) (absV d)) := rfl
      rw [hdef]
      unfold wdivT
      rw [cond_f hd]
      generalize absV (wVal x y) = B at *
      generalize absV d = b at *
      have hh := wHi_in B hB0 (by omega)
      have hl := wLo_in B
      obtain ⟨L1, L2⟩ := long_div (B := B) hb0
      have m0 := Int.emod_nonneg (wHi B) (show b ≠ 0 by omega)
      have m1 := Int.emod_lt_of_pos (wHi B) hb0
      have t1 : (wHi B).tmod b = wHi B % b := tmod_pos hh.1
      have t2 : (wHi B).tdiv b = wHi B / b := tdiv_pos hh.1
      have d0 : 0 ≤ wHi B / b := Int.ediv_nonneg hh.1 (by omega)
      have d1 : wHi B / b ≤ wHi B := Int.ediv_le_self _ hh.1
      have t3 : wr .u64 (wHi B / b) = wHi B / b := u64_in d0 (by omega)
      have c0 : 0 ≤ wVal (wHi B % b) (wLo B) := by unfold wVal; omega
      have q0 : 0 ≤ wVal (wHi B % b) (wLo B) / b := Int.ediv_nonneg c0 (by omega)
      have q1 : wVal (wHi B % b) (wLo B) / b < 18446744073709551616 := by
        refine Int.ediv_lt_of_lt_mul hb0 ?_
        have : (wHi B % b + 1) * 18446744073709551616 ≤ b * 18446744073709551616 := Int.mul_le_mul_of_nonneg_right (by omega) (by omega)
        unfold wVal
        rw [Int.mul_comm 18446744073709551616 b]
        omega
      have r0 := Int.emod_nonneg B (show b ≠ 0 by omega)
      have r1 := Int.emod_lt_of_pos B hb0
      have t4 : wr .u64 (b - B % b) = b - B % b := u64_in (by omega) (by omega)
      have Q0 : 0 ≤ B / b := Int.ediv_nonneg hB0 (by omega)
      have Q1 : B / b ≤ B := Int.ediv_le_self _ hB0
      have e01 : wVal 0 1 = 1 := rfl
      have t5 : (B / b + 1) % 340282366920938463463374607431768211456 = B / b + 1 := by omega
      simp only [t1, t2, t3, L1, L2, t4, e01, t5, wVal_mk]
      by_cases hr : B % b ≥ b - B % b
      · rw [cond_t (decide_eq_true hr)]
        have eq : quoR B b = B / b + 1 := if_pos hr
        rw [eq]
        refine ⟨_, rfl, ?_⟩
        simp only [all_tt, all_ff, isU_iff, isI_iff, decide_eq_true_eq, decide_eq_false_iff_not]
        repeat' apply And.intro
        all_goals first | exact ae_nil | (unfold wHi; omega) | (unfold wLo; omega) | omega
      · rw [cond_f (decide_eq_false hr)]
        have eq : quoR B b = B / b := if_neg hr
        rw [eq]
        refine ⟨_, rfl, ?_⟩
        simp only [all_tt, all_ff, isU_iff, isI_iff, decide_eq_true_eq, decide_eq_false_iff_not]
        repeat' apply And.intro
        all_goals first | exact ae_nil | (unfold wHi; omega) | (unfold wLo; omega) | omega
  · cases hF

def S10 : FuncId → Option SumK := more S9 125 (pureSum divS)
theorem sound10 : Sound Try.prog S10 := sound9.more sumDiv
end Go.Proofs.Ytnabopepomjncaa

/- fx: the table of what is known so far. -/
namespace Go.Proofs.Ytnabopepomjncaa
open Go.Lr

/-- The quotient where there is one, the root where there is one. -/
def divS2 : List LV → Option (LV × List (Bool × Bool))
  | [.v (.agg [.int .i64 x, .int .u64 y]), .v (.one (.int .i64 d))] =>
    some (.tup [.one (.int .i64 (if isI (divV (wVal x y) d) = true then divV (wVal x y) d else 0)), .one (.bool (isI (divV (wVal x y) d)))], [(d == 0, false), (isI x, true), (isU y, true), (isI d, true)])
  | _ => none
theorem sumDiv2 : SumOK Try.prog 125 (pureSum divS2) := by
  refine sumDiv.pure_re fun args v cs hF hc => ?_
  unfold divS2 at hF
  split at hF
  · cases hF
    exact ⟨_, cond_f (hd_of hc), tl_of hc⟩
  · cases hF
def rootS2 : List LV → Option (LV × List (Bool × Bool))
  | [.v (.agg [.int .i64 x, .int .u64 y])] =>
    some (.tup [.one (.int .i64 (if isI (rootW (wVal x y)) = true then rootW (wVal x y) else 0)), .one (.bool (isI (rootW (wVal x y))))], [(decide (x < 0), false), (isI x, true), (isU y, true)])
  | _ => none
theorem sumRoot2 : SumOK Try.prog 127 (pureSum rootS2) := by
  refine sumRoot.pure_re fun args v cs hF hc => ?_
  unfold rootS2 at hF
  split at hF
  · rename_i x y
    cases hF
    have h0 := hd_of hc
    refine ⟨[(isI x, true), (isU y, true)], ?_, tl_of hc⟩
    simp only [rootS, h0]
  · cases hF

def S11 : FuncId → Option SumK := more (more (more (more S8 127 (pureSum rootS2)) 125 (pureSum divS2)) 13 (accSum 26 clampF)) 12 (accSum 26 satF)
theorem sound11 : Sound Try.prog S11 := (((sound8.more sumRoot2).more sumDiv2).more sumClamp).more sumSat
end Go.Proofs.Ytnabopepomjncaa

/- fx: end, Sub, Abs, by every path of their runs (printed), and what they come to. -/
namespace Go.Proofs.Ytnabopepomjncaa
open Go.Lr
set_option linter.unusedVariables false
set_option linter.unusedSimpArgs false

theorem xendR1 (a : Int) (ok neg : Bool) (hb : Bool) : (runF Try.prog S11 Zl 2000 56 [A0, .v (.one (.int .i64 a)), .v (.one (.bool ok)), .v (.one (.bool neg))] [(0, flag 26 hb)] 1 [some true, some true]).map acc3 = some (LV.v (V1.one (At.int IntKind.i64 (-1152921504606846976))), some { ty := 26, fr := (0, 0), es := 0, cells := [At.bool true] }, [(neg, true), (!ok, true)]) := by kernel_rfl
theorem xendR2 (a : Int) (ok neg : Bool) (hb : Bool) : (runF Try.prog S11 Zl 2000 56 [A0, .v (.one (.int .i64 a)), .v (.one (.bool ok)), .v (.one (.bool neg))] [(0, flag 26 hb)] 1 [some true, some false]).map acc3 = some (LV.v (V1.one (At.int IntKind.i64 1152921504606846976)), some { ty := 26, fr := (0, 0), es := 0, cells := [At.bool true] }, [(neg, false), (!ok, true)]) := by kernel_rfl
theorem xendR3 (a : Int) (ok neg : Bool) (hb : Bool) : (runF Try.prog S11 Zl 2000 56 [A0, .v (.one (.int .i64 a)), .v (.one (.bool ok)), .v (.one (.bool neg))] [(0, flag 26 hb)] 1 [some false]).map acc3 = some (LV.v (V1.one (At.int IntKind.i64 (satV a))), some { ty := 26, fr := (0, 0), es := 0, cells := [At.bool (hb || satH a)] }, [(!ok, false)]) := by kernel_rfl
def xendT (a : Int) (ok neg : Bool) (hb : Bool) : Option (LV × Bool × List (Bool × Bool)) := 
  bif (!ok) then 
    bif (neg) then some (LV.v (V1.one (At.int IntKind.i64 (-1152921504606846976))), (true), [])
    else some (LV.v (V1.one (At.int IntKind.i64 1152921504606846976)), (true), [])
  else some (LV.v (V1.one (At.int IntKind.i64 (satV a))), (hb || satH a), [])
def xendF : List LV → Bool → Option (LV × Bool × List (Bool × Bool))
  | [.v (.one (.int .i64 a)), .v (.one (.bool ok)), .v (.one (.bool neg))], hb => xendT a ok neg hb
  | _, _ => none
theorem sumxend : SumOK Try.prog 56 (accSum 26 xendF) := by
  refine accSum_run (z := Zl) sound11 (own_of sound11 Try.func56 (by kernel_rfl)) fun args hb v h' cs hF hc => ?_
  unfold xendF at hF
  split at hF
  · rename_i a ok neg
    unfold xendT at hF
    rcases bool_cases (!ok) with h0 | h0
    · rw [cond_t h0] at hF
      rcases bool_cases (neg) with h1 | h1
      · rw [cond_t h1] at hF
        cases hF
        exact ⟨rfl, 2000, [some true, some true], _, xendR1 a ok neg hb, ae_cons (h1) (ae_cons (h0) (ae_nil))⟩
      · rw [cond_f h1] at hF
        cases hF
        exact ⟨rfl, 2000, [some true, some false], _, xendR2 a ok neg hb, ae_cons (h1) (ae_cons (h0) (ae_nil))⟩
    · rw [cond_f h0] at hF
      cases hF
      exact ⟨rfl, 2000, [some false], _, xendR3 a ok neg hb, ae_cons (h0) (ae_nil)⟩
  · cases hF

theorem xsubR1 (a b : Int) (hb : Bool) : (runF Try.prog S11 Zl 2000 20 [A0, .v (.one (.int .i64 a)), .v (.one (.int .i64 b))] [(0, flag 26 hb)] 1 []).map acc3 = some (LV.v (V1.one (At.int IntKind.i64 (satV (wr IntKind.i64 (satV a - satV b))))), some { ty := 26, fr := (0, 0), es := 0, cells := [At.bool (hb || satH a || satH b || satH (wr IntKind.i64 (satV a - satV b)))] }, []) := by kernel_rfl
def xsubT (a b : Int) (hb : Bool) : Option (LV × Bool × List (Bool × Bool)) := some (LV.v (V1.one (At.int IntKind.i64 (satV (wr IntKind.i64 (satV a - satV b))))), (hb || satH a || satH b || satH (wr IntKind.i64 (satV a - satV b))), [])
def xsubF : List LV → Bool → Option (LV × Bool × List (Bool × Bool))
  | [.v (.one (.int .i64 a)), .v (.one (.int .i64 b))], hb => xsubT a b hb
  | _, _ => none
theorem sumxsub : SumOK Try.prog 20 (accSum 26 xsubF) := by
  refine accSum_run (z := Zl) sound11 (own_of sound11 Try.func20 (by kernel_rfl)) fun args hb v h' cs hF hc => ?_
  unfold xsubF at hF
  split at hF
  · rename_i a b
    unfold xsubT at hF
    cases hF
    exact ⟨rfl, 2000, [], _, xsubR1 a b hb, ae_nil⟩
  · cases hF

theorem xabsR1 (a : Int) : (runF Try.prog S11 Zl 2000 29 [.v (.one (.int .i64 a))] [] 0 [some true, some true, some true, none]).map (fun r => (r.1, r.2.2.2)) = some (LV.v (V1.one (At.int IntKind.i64 1152921504606846976)), [(decide (a ≥ 1152921504606846976), true), (decide (a ≥ 1152921504606846976), true), (decide (a ≥ 1152921504606846976), true)]) := by kernel_rfl
theorem xabsR2 (a : Int) : (runF Try.prog S11 Zl 2000 29 [.v (.one (.int .i64 a))] [] 0 [some false, some false, some false, some true]).map (fun r => (r.1, r.2.2.2)) = some (LV.v (V1.one (At.int IntKind.i64 1152921504606846976)), [(decide (a ≤ -1152921504606846976), true), (decide (a ≥ 1152921504606846976), false), (decide (a ≥ 1152921504606846976), false), (decide (a ≥ 1152921504606846976), false)]) := by kernel_rfl
theorem xabsR3 (a : Int) : (runF Try.prog S11 Zl 2000 29 [.v (.one (.int .i64 a))] [] 0 [some false, some false, some false, some false, some true]).map (fun r => (r.1, r.2.2.2)) = some (LV.v (V1.one (At.int IntKind.i64 (wr IntKind.i64 (0 - a)))), [(decide (a < 0), true), (decide (a ≤ -1152921504606846976), false), (decide (a ≥ 1152921504606846976), false), (decide (a ≥ 1152921504606846976), false), (decide (a ≥ 1152921504606846976), false)]) := by kernel_rfl
theorem xabsR4 (a : Int) : (runF Try.prog S11 Zl 2000 29 [.v (.one (.int .i64 a))] [] 0 [some false, some false, some false, some false, some false]).map (fun r => (r.1, r.2.2.2)) = some (LV.v (V1.one (At.int IntKind.i64 a)), [(decide (a < 0), false), (decide (a ≤ -1152921504606846976), false), (decide (a ≥ 1152921504606846976), false), (decide (a ≥ 1152921504606846976), false), (decide (a ≥ 1152921504606846976), false)]) := by kernel_rfl
def xabsT (a : Int) : Option (LV × List (Bool × Bool)) := 
  bif (decide (a ≥ 1152921504606846976)) then some (LV.v (V1.one (At.int IntKind.i64 1152921504606846976)), [])
  else 
    bif (decide (a ≤ -1152921504606846976)) then some (LV.v (V1.one (At.int IntKind.i64 1152921504606846976)), [])
    else 
      bif (decide (a < 0)) then some (LV.v (V1.one (At.int IntKind.i64 (wr IntKind.i64 (0 - a)))), [])
      else some (LV.v (V1.one (At.int IntKind.i64 a)), [])
def xabsF : List LV → Option (LV × List (Bool × Bool))
  | [.v (.one (.int .i64 a))] => xabsT a
  | _ => none
theorem sumxabs : SumOK Try.prog 29 (pureSum xabsF) := by
  refine pureSum_run (z := Zl) sound11 (own_of sound11 Try.func29 (by kernel_rfl)) fun args v cs hF hc => ?_
  unfold xabsF at hF
  split at hF
  · rename_i a
    unfold xabsT at hF
    rcases bool_cases (decide (a ≥ 1152921504606846976)) with h0 | h0
    · rw [cond_t h0] at hF
      cases hF
      exact ⟨2000, [some true, some true, some true, none], _, xabsR1 a, ae_cons (h0) (ae_cons (h0) (ae_cons (h0) (ae_nil)))⟩
    · rw [cond_f h0] at hF
      rcases bool_cases (decide (a ≤ -1152921504606846976)) with h1 | h1
      · rw [cond_t h1] at hF
        cases hF
        exact ⟨2000, [some false, some false, some false, some true], _, xabsR2 a, ae_cons (h1) (ae_cons (h0) (ae_cons (h0) (ae_cons (h0) (ae_nil))))⟩
      · rw [cond_f h1] at hF
        rcases bool_cases (decide (a < 0)) with h2 | h2
        · rw [cond_t h2] at hF
          cases hF
          exact ⟨2000, [some false, some false, some false, some false, some true], _, xabsR3 a, ae_cons (h2) (ae_cons (h1) (ae_cons (h0) (ae_cons (h0) (ae_cons (h0) (ae_nil)))))⟩
        · rw [cond_f h2] at hF
          cases hF
          exact ⟨2000, [some false, some false, some false, some false, some false], _, xabsR4 a, ae_cons (h2) (ae_cons (h1) (ae_cons (h0) (ae_cons (h0) (ae_cons (h0) (ae_nil)))))⟩
  · cases hF


theorem sat_bd (a : Int) : -1152921504606846976 ≤ satV a ∧ satV a ≤ 1152921504606846976 := by
  unfold satV clampV; (repeat' split) <;> omega
theorem sat_in {a : Int} (h0 : -1152921504606846976 ≤ a) (h1 : a ≤ 1152921504606846976) : satV a = a := by
  unfold satV clampV; rw [if_neg (by omega), if_neg (by omega), if_neg (by omega)]
theorem satH_in {a : Int} (h0 : -1152921504606846976 ≤ a) (h1 : a ≤ 1152921504606846976) : satH a = false := by
  unfold satH clampH; simp; omega
theorem satH_out {a : Int} (h : a < -1152921504606846976 ∨ 1152921504606846976 < a) : satH a = true := by
  unfold satH clampH; simp; omega
theorem sat_lo {a : Int} (h : a < -1152921504606846976) : satV a = -1152921504606846976 := by
  unfold satV clampV; rw [if_neg (by omega), if_pos (by omega)]
theorem sat_hi {a : Int} (h : 1152921504606846976 < a) : satV a = 1152921504606846976 := by
  unfold satV clampV; rw [if_neg (by omega), if_neg (by omega), if_pos (by omega)]

def endV (a : Int) (ok neg : Bool) : Int := bif ok then satV a else bif neg then -1152921504606846976 else 1152921504606846976
def endH (a : Int) (ok : Bool) : Bool := bif ok then satH a else true
def endS : List LV → Bool → Option (LV × Bool × List (Bool × Bool))
  | [.v (.one (.int .i64 a)), .v (.one (.bool ok)), .v (.one (.bool neg))], hb => some (I (endV a ok neg), hb || endH a ok, [])
  | _, _ => none
theorem sumEnd : SumOK Try.prog 56 (accSum 26 endS) := by
  refine sumxend.acc_re fun args hb v h' cs hF _ => ?_
  unfold endS at hF
  split at hF
  · rename_i a ok neg
    cases hF
    refine ⟨[], ?_, ae_nil⟩
    show xendT a ok neg hb = _
    unfold xendT
    cases ok <;> cases neg <;> simp [endV, endH, I]
  · cases hF

def subV (a b : Int) : Int := satV (satV a - satV b)
def subH (a b : Int) : Bool := satH a || (satH b || satH (satV a - satV b))
def subS : List LV → Bool → Option (LV × Bool × List (Bool × Bool))
  | [.v (.one (.int .i64 a)), .v (.one (.int .i64 b))], hb => some (I (subV a b), hb || subH a b, [])
  | _, _ => none
theorem sumSub : SumOK Try.prog 20 (accSum 26 subS) := by
  refine sumxsub.acc_re fun args hb v h' cs hF _ => ?_
  unfold subS at hF
  split at hF
  · rename_i a b
    cases hF
    refine ⟨[], ?_, ae_nil⟩
    show xsubT a b hb = _
    have ha := sat_bd a
    have hb' := sat_bd b
    have e : wr .i64 (satV a - satV b) = satV a - satV b := w64_in (by omega) (by omega)
    unfold xsubT
    rw [e]
    simp [subV, subH, I, Bool.or_assoc]
  · cases hF

def fabsV (a : Int) : Int := if a ≥ 1152921504606846976 then 1152921504606846976 else if a ≤ -1152921504606846976 then 1152921504606846976 else if a < 0 then -a else a
def fabsS : List LV → Option (LV × List (Bool × Bool))
  | [.v (.one (.int .i64 a))] => some (I (fabsV a), [])
  | _ => none
theorem sumFabs : SumOK Try.prog 29 (pureSum fabsS) := by
  refine sumxabs.pure_re fun args v cs hF _ => ?_
  unfold fabsS at hF
  split at hF
  · rename_i a
    cases hF
    refine ⟨[], ?_, ae_nil⟩
    show xabsT a = _
    unfold xabsT fabsV
    by_cases h1 : a ≥ 1152921504606846976
    · rw [cond_t (decide_eq_true h1), if_pos h1]; rfl
    · rw [cond_f (decide_eq_false h1), if_neg h1]
      by_cases h2 : a ≤ -1152921504606846976
      · rw [cond_t (decide_eq_true h2), if_pos h2]; rfl
      · rw [cond_f (decide_eq_false h2), if_neg h2]
        by_cases h3 : a < 0
        · rw [cond_t (decide_eq_true h3), if_pos h3]
          have e : wr .i64 (0 - a) = -a := by rw [wr_i]; unfold w64; omega
          rw [e]; rfl
        · rw [cond_f (decide_eq_false h3), if_neg h3]; rfl
  · cases hF

def S12 : FuncId → Option SumK := more (more (more S11 56 (accSum 26 endS)) 20 (accSum 26 subS)) 29 (pureSum fabsS)
theorem sound12 : Sound Try.prog S12 := ((sound11.more sumEnd).more sumSub).more sumFabs
end Go.Proofs.Ytnabopepomjncaa

/- fx: round, by, by every path of their runs (printed), and what they come to. -/
namespace Go.Proofs.Ytnabopepomjncaa
open Go.Lr
set_option linter.unusedVariables false
set_option linter.unusedSimpArgs false

theorem xroundR1 (x y s : Int) (hb : Bool) : (runF Try.prog S12 Zl 2000 51 [A0, .v (.agg [.int .i64 x, .int .u64 y]), .v (.one (.int .i64 s))] [(0, flag 26 hb)] 1 [some true, some true, some true, none]).map acc3 = some (LV.v (V1.one (At.int IntKind.i64 0)), some { ty := 26, fr := (0, 0), es := 0, cells := [At.bool true] }, [(decide (s < 0), true), (decide (s < 0), true), (decide (s < 0), true)]) := by kernel_rfl
theorem xroundR2 (x y s : Int) (hb : Bool) : (runF Try.prog S12 Zl 2000 51 [A0, .v (.agg [.int .i64 x, .int .u64 y]), .v (.one (.int .i64 s))] [(0, flag 26 hb)] 1 [some false, some false, some false, some true]).map acc3 = some (LV.v (V1.one (At.int IntKind.i64 0)), some { ty := 26, fr := (0, 0), es := 0, cells := [At.bool true] }, [(decide (s > 120), true), (decide (s < 0), false), (decide (s < 0), false), (decide (s < 0), false)]) := by kernel_rfl
theorem xroundR3 (x y s : Int) (hb : Bool) : (runF Try.prog S12 Zl 2000 51 [A0, .v (.agg [.int .i64 x, .int .u64 y]), .v (.one (.int .i64 s))] [(0, flag 26 hb)] 1 [some false, some false, some false, some false]).map acc3 = some (LV.v (V1.one (At.int IntKind.i64 (endV (if isI (rndV (wVal x y) s.toNat) = true then rndV (wVal x y) s.toNat else 0) (isI (rndV (wVal x y) s.toNat)) (decide (x < 0))))), some { ty := 26, fr := (0, 0), es := 0, cells := [At.bool (hb || endH (if isI (rndV (wVal x y) s.toNat) = true then rndV (wVal x y) s.toNat else 0) (isI (rndV (wVal x y) s.toNat)))] }, [(isI x, true), (isU y, true), (decide (0 ≤ s) && decide (s ≤ 126), true), (decide (s > 120), false), (decide (s < 0), false), (decide (s < 0), false), (decide (s < 0), false)]) := by kernel_rfl
def xroundT (x y s : Int) (hb : Bool) : Option (LV × Bool × List (Bool × Bool)) := 
  bif (decide (s < 0)) then some (LV.v (V1.one (At.int IntKind.i64 0)), (true), [])
  else 
    bif (decide (s > 120)) then some (LV.v (V1.one (At.int IntKind.i64 0)), (true), [])
    else some (LV.v (V1.one (At.int IntKind.i64 (endV (if isI (rndV (wVal x y) s.toNat) = true then rndV (wVal x y) s.toNat else 0) (isI (rndV (wVal x y) s.toNat)) (decide (x < 0))))), (hb || endH (if isI (rndV (wVal x y) s.toNat) = true then rndV (wVal x y) s.toNat else 0) (isI (rndV (wVal x y) s.toNat))), [(isI x, true), (isU y, true), (decide (0 ≤ s) && decide (s ≤ 126), true)])
def xroundF : List LV → Bool → Option (LV × Bool × List (Bool × Bool))
  | [.v (.agg [.int .i64 x, .int .u64 y]), .v (.one (.int .i64 s))], hb => xroundT x y s hb
  | _, _ => none
theorem sumxround : SumOK Try.prog 51 (accSum 26 xroundF) := by
  refine accSum_run (z := Zl) sound12 (own_of sound12 Try.func51 (by kernel_rfl)) fun args hb v h' cs hF hc => ?_
  unfold xroundF at hF
  split at hF
  · rename_i x y s
    unfold xroundT at hF
    rcases bool_cases (decide (s < 0)) with h0 | h0
    · rw [cond_t h0] at hF
      cases hF
      exact ⟨rfl, 2000, [some true, some true, some true, none], _, xroundR1 x y s hb, ae_cons (h0) (ae_cons (h0) (ae_cons (h0) (ae_nil)))⟩
    · rw [cond_f h0] at hF
      rcases bool_cases (decide (s > 120)) with h1 | h1
      · rw [cond_t h1] at hF
        cases hF
        exact ⟨rfl, 2000, [some false, some false, some false, some true], _, xroundR2 x y s hb, ae_cons (h1) (ae_cons (h0) (ae_cons (h0) (ae_cons (h0) (ae_nil))))⟩
      · rw [cond_f h1] at hF
        cases hF
        exact ⟨rfl, 2000, [some false, some false, some false, some false], _, xroundR3 x y s hb, ae_cons (hd_of (hc)) (ae_cons (hd_of (tl_of (hc))) (ae_cons (hd_of (tl_of (tl_of (hc)))) (ae_cons (h1) (ae_cons (h0) (ae_cons (h0) (ae_cons (h0) (ae_nil)))))))⟩
  · cases hF

theorem xbyR1 (x y d : Int) (hb : Bool) : (runF Try.prog S12 Zl 2000 64 [A0, .v (.agg [.int .i64 x, .int .u64 y]), .v (.one (.int .i64 d))] [(0, flag 26 hb)] 1 [some true, some true]).map acc3 = some (LV.v (V1.one (At.int IntKind.i64 0)), some { ty := 26, fr := (0, 0), es := 0, cells := [At.bool true] }, [(x == 0 && (y == 0 && true), true), (d == 0, true)]) := by kernel_rfl
theorem xbyR2 (x y d : Int) (hb : Bool) : (runF Try.prog S12 Zl 2000 64 [A0, .v (.agg [.int .i64 x, .int .u64 y]), .v (.one (.int .i64 d))] [(0, flag 26 hb)] 1 [some true, some false, some true]).map acc3 = some (LV.v (V1.one (At.int IntKind.i64 (-1152921504606846976))), some { ty := 26, fr := (0, 0), es := 0, cells := [At.bool true] }, [(decide (x < 0), true), (x == 0 && (y == 0 && true), false), (d == 0, true)]) := by kernel_rfl
theorem xbyR3 (x y d : Int) (hb : Bool) : (runF Try.prog S12 Zl 2000 64 [A0, .v (.agg [.int .i64 x, .int .u64 y]), .v (.one (.int .i64 d))] [(0, flag 26 hb)] 1 [some true, some false, some false]).map acc3 = some (LV.v (V1.one (At.int IntKind.i64 1152921504606846976)), some { ty := 26, fr := (0, 0), es := 0, cells := [At.bool true] }, [(decide (x < 0), false), (x == 0 && (y == 0 && true), false), (d == 0, true)]) := by kernel_rfl
theorem xbyR4 (x y d : Int) (hb : Bool) : (runF Try.prog S12 Zl 2000 64 [A0, .v (.agg [.int .i64 x, .int .u64 y]), .v (.one (.int .i64 d))] [(0, flag 26 hb)] 1 [some false]).map acc3 = some (LV.v (V1.one (At.int IntKind.i64 (endV (if isI (divV (wVal x y) d) = true then divV (wVal x y) d else 0) (isI (divV (wVal x y) d)) !decide (x < 0) == decide (d < 0)))), some { ty := 26, fr := (0, 0), es := 0, cells := [At.bool (hb || endH (if isI (divV (wVal x y) d) = true then divV (wVal x y) d else 0) (isI (divV (wVal x y) d)))] }, [(d == 0, false), (isI x, true), (isU y, true), (isI d, true), (d == 0, false)]) := by kernel_rfl
def xbyT (x y d : Int) (hb : Bool) : Option (LV × Bool × List (Bool × Bool)) := 
  bif (d == 0) then 
    bif (x == 0 && (y == 0 && true)) then some (LV.v (V1.one (At.int IntKind.i64 0)), (true), [])
    else 
      bif (decide (x < 0)) then some (LV.v (V1.one (At.int IntKind.i64 (-1152921504606846976))), (true), [])
      else some (LV.v (V1.one (At.int IntKind.i64 1152921504606846976)), (true), [])
  else some (LV.v (V1.one (At.int IntKind.i64 (endV (if isI (divV (wVal x y) d) = true then divV (wVal x y) d else 0) (isI (divV (wVal x y) d)) !decide (x < 0) == decide (d < 0)))), (hb || endH (if isI (divV (wVal x y) d) = true then divV (wVal x y) d else 0) (isI (divV (wVal x y) d))), [(isI x, true), (isU y, true), (isI d, true)])
def xbyF : List LV → Bool → Option (LV × Bool × List (Bool × Bool))
  | [.v (.agg [.int .i64 x, .int .u64 y]), .v (.one (.int .i64 d))], hb => xbyT x y d hb
  | _, _ => none
theorem sumxby : SumOK Try.prog 64 (accSum 26 xbyF) := by
  refine accSum_run (z := Zl) sound12 (own_of sound12 Try.func64 (by kernel_rfl)) fun args hb v h' cs hF hc => ?_
  unfold xbyF at hF
  split at hF
  · rename_i x y d
    unfold xbyT at hF
    rcases bool_cases (d == 0) with h0 | h0
    · rw [cond_t h0] at hF
      rcases bool_cases (x == 0 && (y == 0 && true)) with h1 | h1
      · rw [cond_t h1] at hF
        cases hF
        exact ⟨rfl, 2000, [some true, some true], _, xbyR1 x y d hb, ae_cons (h1) (ae_cons (h0) (ae_nil))⟩
      · rw [cond_f h1] at hF
        rcases bool_cases (decide (x < 0)) with h2 | h2
        · rw [cond_t h2] at hF
          cases hF
          exact ⟨rfl, 2000, [some true, some false, some true], _, xbyR2 x y d hb, ae_cons (h2) (ae_cons (h1) (ae_cons (h0) (ae_nil)))⟩
        · rw [cond_f h2] at hF
          cases hF
          exact ⟨rfl, 2000, [some true, some false, some false], _, xbyR3 x y d hb, ae_cons (h2) (ae_cons (h1) (ae_cons (h0) (ae_nil)))⟩
    · rw [cond_f h0] at hF
      cases hF
      exact ⟨rfl, 2000, [some false], _, xbyR4 x y d hb, ae_cons (h0) (ae_cons (hd_of (hc)) (ae_cons (hd_of (tl_of (hc))) (ae_cons (hd_of (tl_of (tl_of (hc)))) (ae_cons (h0) (ae_nil)))))⟩
  · cases hF


theorem endV_of {v : Int} {neg : Bool} (h0 : v < -9223372036854775808 → neg = true) (h1 : 9223372036854775808 ≤ v → neg = false) : endV (if isI v = true then v else 0) (isI v) neg = satV v := by
  unfold endV
  by_cases h : isI v = true
  · rw [h]; simp
  · have h' : isI v = false := by simpa using h
    rw [h']
    have hv : ¬ (-9223372036854775808 ≤ v ∧ v < 9223372036854775808) := fun hh => h (isI_iff.2 hh)
    by_cases hn : v < 0
    · rw [h0 (by omega), sat_lo (a := v) (by omega)]; rfl
    · rw [h1 (by omega), sat_hi (a := v) (by omega)]; rfl
theorem endH_of (v : Int) : endH (if isI v = true then v else 0) (isI v) = satH v := by
  unfold endH
  by_cases h : isI v = true
  · rw [h]; simp
  · have h' : isI v = false := by simpa using h
    rw [h']
    have hv : ¬ (-9223372036854775808 ≤ v ∧ v < 9223372036854775808) := fun hh => h (isI_iff.2 hh)
    rw [satH_out (a := v) (by omega)]; rfl

theorem sgn_t {x : Int} : sgn true x = -x := rfl
theorem sgn_f {x : Int} : sgn false x = x := rfl
theorem rnd_nn (w : Int) (s : Nat) : 0 ≤ (absV w + halfP s) / pow2 s := Int.ediv_nonneg (by have := absV_nn w; have := (halfP_le s).1; omega) (by have := pow2_pos s; omega)
theorem quo_nn {a b : Int} (ha : 0 ≤ a) (hb : 0 ≤ b) : 0 ≤ quoR a b := by
  have := Int.ediv_nonneg ha hb
  unfold quoR; split <;> omega
theorem end_rnd (w : Int) (s : Nat) (n : Bool) (hn : n = decide (w < 0)) : endV (if isI (rndV w s) = true then rndV w s else 0) (isI (rndV w s)) n = satV (rndV w s) := by
  have h := rnd_nn w s
  subst hn
  refine endV_of (fun h1 => ?_) (fun h1 => ?_) <;> unfold rndV at h1 <;> cases hw : decide (w < 0) <;> rw [hw] at h1 <;> simp only [sgn_t, sgn_f] at h1 <;> first | rfl | (exfalso; omega)
theorem end_div (w d : Int) (n : Bool) (hn : n = !(decide (w < 0) == decide (d < 0))) : endV (if isI (divV w d) = true then divV w d else 0) (isI (divV w d)) n = satV (divV w d) := by
  have h := quo_nn (absV_nn w) (absV_nn d)
  subst hn
  refine endV_of (fun h1 => ?_) (fun h1 => ?_) <;> unfold divV at h1 <;> cases hw : !(decide (w < 0) == decide (d < 0)) <;> rw [hw] at h1 <;> simp only [sgn_t, sgn_f] at h1 <;> first | rfl | (exfalso; omega)

/-- Divided by a power of two, rounded, clamped; the flag. -/
def rndS (w s : Int) : Int := if s < 0 then 0 else if s > 120 then 0 else satV (rndV w s.toNat)
def rndH (w s : Int) : Bool := decide (s < 0) || (decide (s > 120) || satH (rndV w s.toNat))
def froundS : List LV → Bool → Option (LV × Bool × List (Bool × Bool))
  | [.v (.agg [.int .i64 x, .int .u64 y]), .v (.one (.int .i64 s))], hb => some (I (rndS (wVal x y) s), hb || rndH (wVal x y) s, [(isI x, true), (isU y, true)])
  | _, _ => none
theorem wVal_neg {x y : Int} (h0 : 0 ≤ y) (h1 : y < 18446744073709551616) : decide (x < 0) = decide (wVal x y < 0) := by
  unfold wVal; congr 1; apply propext; constructor <;> intro h <;> omega
theorem sumFround : SumOK Try.prog 51 (accSum 26 froundS) := by
  refine sumxround.acc_re fun args hb v h' cs hF hc => ?_
  unfold froundS at hF
  split at hF
  · rename_i x y s
    cases hF
    show ∃ cs', xroundT x y s hb = _ ∧ _
    simp only [all_tt, isI_iff, isU_iff] at hc
    obtain ⟨⟨hx0, hx1⟩, ⟨hy0, hy1⟩, -⟩ := hc
    unfold xroundT rndS rndH
    by_cases h1 : s < 0
    · rw [cond_t (decide_eq_true h1), if_pos h1, decide_eq_true h1]
      exact ⟨_, by simp [I], ae_nil⟩
    · rw [cond_f (decide_eq_false h1), if_neg h1, decide_eq_false h1]
      by_cases h2 : s > 120
      · rw [cond_t (decide_eq_true h2), if_pos h2, decide_eq_true h2]
        exact ⟨_, by simp [I], ae_nil⟩
      · rw [cond_f (decide_eq_false h2), if_neg h2, decide_eq_false h2]
        rw [end_rnd _ _ _ (wVal_neg hy0 hy1), endH_of]
        refine ⟨[(isI x, true), (isU y, true), (decide (0 ≤ s) && decide (s ≤ 126), true)], by simp only [I, Bool.false_or], ?_⟩
        simp only [all_tt, isI_iff, isU_iff, Bool.and_eq_true, decide_eq_true_eq]
        exact ⟨⟨hx0, hx1⟩, ⟨hy0, hy1⟩, ⟨by omega, by omega⟩, ae_nil⟩
  · cases hF

/-- Divided; of a divisor 0 the bound. -/
def byV (w d : Int) : Int := if d = 0 then (if w = 0 then 0 else if w < 0 then -1152921504606846976 else 1152921504606846976) else satV (divV w d)
def byH (w d : Int) : Bool := d == 0 || satH (divV w d)
def fbyS : List LV → Bool → Option (LV × Bool × List (Bool × Bool))
  | [.v (.agg [.int .i64 x, .int .u64 y]), .v (.one (.int .i64 d))], hb => some (I (byV (wVal x y) d), hb || byH (wVal x y) d, [(isI x, true), (isU y, true), (isI d, true)])
  | _, _ => none
theorem sumFby : SumOK Try.prog 64 (accSum 26 fbyS) := by
  refine sumxby.acc_re fun args hb v h' cs hF hc => ?_
  unfold fbyS at hF
  split at hF
  · rename_i x y d
    cases hF
    show ∃ cs', xbyT x y d hb = _ ∧ _
    have hc' := hc
    simp only [all_tt, isI_iff, isU_iff] at hc
    obtain ⟨⟨hx0, hx1⟩, ⟨hy0, hy1⟩, ⟨hd0, hd1⟩, -⟩ := hc
    unfold xbyT byV byH
    by_cases h1 : d = 0
    · rw [cond_t (by simpa using h1), if_pos h1]
      have hd : (d == 0) = true := by simpa using h1
      rw [hd]
      by_cases h2 : wVal x y = 0
      · have hx : x = 0 := by unfold wVal at h2; omega
        have hy : y = 0 := by unfold wVal at h2; omega
        rw [cond_t (by simp [hx, hy]), if_pos h2]
        exact ⟨_, by simp [I], ae_nil⟩
      · rw [cond_f (by by_cases hx : x = 0 <;> by_cases hy : y = 0 <;> simp [hx, hy]; exact absurd (by rw [hx, hy]; rfl) h2), if_neg h2]
        by_cases h3 : x < 0
        · rw [cond_t (by simpa using h3), if_pos (by unfold wVal; omega)]
          exact ⟨_, by simp [I], ae_nil⟩
        · rw [cond_f (by simpa using h3), if_neg (by unfold wVal; omega)]
          exact ⟨_, by simp [I], ae_nil⟩
    · have hd : (d == 0) = false := by simpa using h1
      rw [cond_f hd, if_neg h1, hd]
      rw [end_div _ _ _ (by rw [wVal_neg hy0 hy1]), endH_of]
      exact ⟨[(isI x, true), (isU y, true), (isI d, true)], by simp only [I, Bool.false_or], hc'⟩
  · cases hF

def S13 : FuncId → Option SumK := more (more S12 51 (accSum 26 froundS)) 64 (accSum 26 fbyS)
theorem sound13 : Sound Try.prog S13 := (sound12.more sumFround).more sumFby
end Go.Proofs.Ytnabopepomjncaa

/- fx: Mul, Div, MulDiv, by every path of their runs (printed), and what they come to. -/
namespace Go.Proofs.Ytnabopepomjncaa
open Go.Lr
set_option linter.unusedVariables false
set_option linter.unusedSimpArgs false

theorem xmulR1 (a b s : Int) (hb : Bool) : (runF Try.prog S13 Zl 2000 22 [A0, .v (.one (.int .i64 a)), .v (.one (.int .i64 b)), .v (.one (.int .i64 s))] [(0, flag 26 hb)] 1 []).map acc3 = some (LV.v (V1.one (At.int IntKind.i64 (rndS (wVal (wHi (satV a * satV b)) (wLo (satV a * satV b))) s))), some { ty := 26, fr := (0, 0), es := 0, cells := [At.bool (hb || satH a || satH b || rndH (wVal (wHi (satV a * satV b)) (wLo (satV a * satV b))) s)] }, [(isI (wHi (satV a * satV b)), true), (isU (wLo (satV a * satV b)), true), (isI (satV a), true), (isI (satV b), true)]) := by kernel_rfl
def xmulT (a b s : Int) (hb : Bool) : Option (LV × Bool × List (Bool × Bool)) := some (LV.v (V1.one (At.int IntKind.i64 (rndS (wVal (wHi (satV a * satV b)) (wLo (satV a * satV b))) s))), (hb || satH a || satH b || rndH (wVal (wHi (satV a * satV b)) (wLo (satV a * satV b))) s), [(isI (wHi (satV a * satV b)), true), (isU (wLo (satV a * satV b)), true), (isI (satV a), true), (isI (satV b), true)])
def xmulF : List LV → Bool → Option (LV × Bool × List (Bool × Bool))
  | [.v (.one (.int .i64 a)), .v (.one (.int .i64 b)), .v (.one (.int .i64 s))], hb => xmulT a b s hb
  | _, _ => none
theorem sumxmul : SumOK Try.prog 22 (accSum 26 xmulF) := by
  refine accSum_run (z := Zl) sound13 (own_of sound13 Try.func22 (by kernel_rfl)) fun args hb v h' cs hF hc => ?_
  unfold xmulF at hF
  split at hF
  · rename_i a b s
    unfold xmulT at hF
    cases hF
    exact ⟨rfl, 2000, [], _, xmulR1 a b s hb, ae_cons (hd_of (hc)) (ae_cons (hd_of (tl_of (hc))) (ae_cons (hd_of (tl_of (tl_of (hc)))) (ae_cons (hd_of (tl_of (tl_of (tl_of (hc))))) (ae_nil))))⟩
  · cases hF

theorem xdivR1 (a b s : Int) (hb : Bool) : (runF Try.prog S13 Zl 2000 24 [A0, .v (.one (.int .i64 a)), .v (.one (.int .i64 b)), .v (.one (.int .i64 s))] [(0, flag 26 hb)] 1 [some true, some true, some true, none]).map acc3 = some (LV.v (V1.one (At.int IntKind.i64 0)), some { ty := 26, fr := (0, 0), es := 0, cells := [At.bool true] }, [(decide (s < 0), true), (decide (s < 0), true), (decide (s < 0), true)]) := by kernel_rfl
theorem xdivR2 (a b s : Int) (hb : Bool) : (runF Try.prog S13 Zl 2000 24 [A0, .v (.one (.int .i64 a)), .v (.one (.int .i64 b)), .v (.one (.int .i64 s))] [(0, flag 26 hb)] 1 [some false, some false, some false, some true]).map acc3 = some (LV.v (V1.one (At.int IntKind.i64 0)), some { ty := 26, fr := (0, 0), es := 0, cells := [At.bool true] }, [(decide (s > 66), true), (decide (s < 0), false), (decide (s < 0), false), (decide (s < 0), false)]) := by kernel_rfl
theorem xdivR3 (a b s : Int) (hb : Bool) : (runF Try.prog S13 Zl 2000 24 [A0, .v (.one (.int .i64 a)), .v (.one (.int .i64 b)), .v (.one (.int .i64 s))] [(0, flag 26 hb)] 1 [some false, some false, some false, some false]).map acc3 = some (LV.v (V1.one (At.int IntKind.i64 (byV (wVal (wHi (satV a * pow2 s.toNat)) (wLo (satV a * pow2 s.toNat))) (satV b)))), some { ty := 26, fr := (0, 0), es := 0, cells := [At.bool (hb || satH a || satH b || byH (wVal (wHi (satV a * pow2 s.toNat)) (wLo (satV a * pow2 s.toNat))) (satV b))] }, [(isI (wHi (satV a * pow2 s.toNat)), true), (isU (wLo (satV a * pow2 s.toNat)), true), (isI (satV b), true), (isI (satV a), true), (decide (0 ≤ s) && decide (s ≤ 127), true), (decide (absV (satV a) * pow2 s.toNat < 170141183460469231731687303715884105728), true), (decide (s > 66), false), (decide (s < 0), false), (decide (s < 0), false), (decide (s < 0), false)]) := by kernel_rfl
def xdivT (a b s : Int) (hb : Bool) : Option (LV × Bool × List (Bool × Bool)) := 
  bif (decide (s < 0)) then some (LV.v (V1.one (At.int IntKind.i64 0)), (true), [])
  else 
    bif (decide (s > 66)) then some (LV.v (V1.one (At.int IntKind.i64 0)), (true), [])
    else some (LV.v (V1.one (At.int IntKind.i64 (byV (wVal (wHi (satV a * pow2 s.toNat)) (wLo (satV a * pow2 s.toNat))) (satV b)))), (hb || satH a || satH b || byH (wVal (wHi (satV a * pow2 s.toNat)) (wLo (satV a * pow2 s.toNat))) (satV b)), [(isI (wHi (satV a * pow2 s.toNat)), true), (isU (wLo (satV a * pow2 s.toNat)), true), (isI (satV b), true), (isI (satV a), true), (decide (0 ≤ s) && decide (s ≤ 127), true), (decide (absV (satV a) * pow2 s.toNat < 170141183460469231731687303715884105728), true)])
def xdivF : List LV → Bool → Option (LV × Bool × List (Bool × Bool))
  | [.v (.one (.int .i64 a)), .v (.one (.int .i64 b)), .v (.one (.int .i64 s))], hb => xdivT a b s hb
  | _, _ => none
theorem sumxdiv : SumOK Try.prog 24 (accSum 26 xdivF) := by
  refine accSum_run (z := Zl) sound13 (own_of sound13 Try.func24 (by kernel_rfl)) fun args hb v h' cs hF hc => ?_
  unfold xdivF at hF
  split at hF
  · rename_i a b s
    unfold xdivT at hF
    rcases bool_cases (decide (s < 0)) with h0 | h0
    · rw [cond_t h0] at hF
      cases hF
      exact ⟨rfl, 2000, [some true, some true, some true, none], _, xdivR1 a b s hb, ae_cons (h0) (ae_cons (h0) (ae_cons (h0) (ae_nil)))⟩
    · rw [cond_f h0] at hF
      rcases bool_cases (decide (s > 66)) with h1 | h1
      · rw [cond_t h1] at hF
        cases hF
        exact ⟨rfl, 2000, [some false, some false, some false, some true], _, xdivR2 a b s hb, ae_cons (h1) (ae_cons (h0) (ae_cons (h0) (ae_cons (h0) (ae_nil))))⟩
      · rw [cond_f h1] at hF
        cases hF
        exact ⟨rfl, 2000, [some false, some false, some false, some false], _, xdivR3 a b s hb, ae_cons (hd_of (hc)) (ae_cons (hd_of (tl_of (hc))) (ae_cons (hd_of (tl_of (tl_of (hc)))) (ae_cons (hd_of (tl_of (tl_of (tl_of (hc))))) (ae_cons (hd_of (tl_of (tl_of (tl_of (tl_of (hc)))))) (ae_cons (hd_of (tl_of (tl_of (tl_of (tl_of (tl_of (hc))))))) (ae_cons (h1) (ae_cons (h0) (ae_cons (h0) (ae_cons (h0) (ae_nil))))))))))⟩
  · cases hF

theorem xmuldivR1 (a b d : Int) (hb : Bool) : (runF Try.prog S13 Zl 2000 26 [A0, .v (.one (.int .i64 a)), .v (.one (.int .i64 b)), .v (.one (.int .i64 d))] [(0, flag 26 hb)] 1 []).map acc3 = some (LV.v (V1.one (At.int IntKind.i64 (byV (wVal (wHi (satV a * satV b)) (wLo (satV a * satV b))) (satV d)))), some { ty := 26, fr := (0, 0), es := 0, cells := [At.bool (hb || satH a || satH b || satH d || byH (wVal (wHi (satV a * satV b)) (wLo (satV a * satV b))) (satV d))] }, [(isI (wHi (satV a * satV b)), true), (isU (wLo (satV a * satV b)), true), (isI (satV d), true), (isI (satV a), true), (isI (satV b), true)]) := by kernel_rfl
def xmuldivT (a b d : Int) (hb : Bool) : Option (LV × Bool × List (Bool × Bool)) := some (LV.v (V1.one (At.int IntKind.i64 (byV (wVal (wHi (satV a * satV b)) (wLo (satV a * satV b))) (satV d)))), (hb || satH a || satH b || satH d || byH (wVal (wHi (satV a * satV b)) (wLo (satV a * satV b))) (satV d)), [(isI (wHi (satV a * satV b)), true), (isU (wLo (satV a * satV b)), true), (isI (satV d), true), (isI (satV a), true), (isI (satV b), true)])
def xmuldivF : List LV → Bool → Option (LV × Bool × List (Bool × Bool))
  | [.v (.one (.int .i64 a)), .v (.one (.int .i64 b)), .v (.one (.int .i64 d))], hb => xmuldivT a b d hb
  | _, _ => none
theorem sumxmuldiv : SumOK Try.prog 26 (accSum 26 xmuldivF) := by
  refine accSum_run (z := Zl) sound13 (own_of sound13 Try.func26 (by kernel_rfl)) fun args hb v h' cs hF hc => ?_
  unfold xmuldivF at hF
  split at hF
  · rename_i a b d
    unfold xmuldivT at hF
    cases hF
    exact ⟨rfl, 2000, [], _, xmuldivR1 a b d hb, ae_cons (hd_of (hc)) (ae_cons (hd_of (tl_of (hc))) (ae_cons (hd_of (tl_of (tl_of (hc)))) (ae_cons (hd_of (tl_of (tl_of (tl_of (hc))))) (ae_cons (hd_of (tl_of (tl_of (tl_of (tl_of (hc)))))) (ae_nil)))))⟩
  · cases hF


theorem absV_sat (a : Int) : absV (satV a) ≤ 1152921504606846976 := by have := sat_bd a; unfold absV; split <;> omega
theorem satsat (a b : Int) : -1329227995784915872903807060280344576 ≤ satV a * satV b ∧ satV a * satV b ≤ 1329227995784915872903807060280344576 := prod_lt (absV_sat a) (absV_sat b)
theorem isI_sat (a : Int) : isI (satV a) = true := by have := sat_bd a; exact isI_iff.2 ⟨by omega, by omega⟩
theorem isI_hi {v : Int} (h0 : -170141183460469231731687303715884105728 ≤ v) (h1 : v < 170141183460469231731687303715884105728) : isI (wHi v) = true := isI_iff.2 (wHi_inI v h0 h1)
theorem isI_hi_ss (a b : Int) : isI (wHi (satV a * satV b)) = true := by have := satsat a b; exact isI_hi (by omega) (by omega)

def mulV (a b s : Int) : Int := rndS (satV a * satV b) s
def mulH (a b s : Int) : Bool := satH a || (satH b || rndH (satV a * satV b) s)
def fmulS : List LV → Bool → Option (LV × Bool × List (Bool × Bool))
  | [.v (.one (.int .i64 a)), .v (.one (.int .i64 b)), .v (.one (.int .i64 s))], hb => some (I (mulV a b s), hb || mulH a b s, [])
  | _, _ => none
theorem sumFmul : SumOK Try.prog 22 (accSum 26 fmulS) := by
  refine sumxmul.acc_re fun args hb v h' cs hF _ => ?_
  unfold fmulS at hF
  split at hF
  · rename_i a b s
    cases hF
    show ∃ cs', xmulT a b s hb = _ ∧ _
    unfold xmulT
    rw [wVal_mk]
    refine ⟨[(isI (wHi (satV a * satV b)), true), (isU (wLo (satV a * satV b)), true), (isI (satV a), true), (isI (satV b), true)], by simp only [I, mulV, mulH, Bool.or_assoc], ?_⟩
    simp only [isI_hi_ss, isU_lo, isI_sat]
    simp
  · cases hF

def divPV (a b s : Int) : Int := if s < 0 then 0 else if s > 66 then 0 else byV (satV a * pow2 s.toNat) (satV b)
def divPH (a b s : Int) : Bool := satH a || (satH b || (decide (s < 0) || (decide (s > 66) || byH (satV a * pow2 s.toNat) (satV b))))
def fdivS : List LV → Bool → Option (LV × Bool × List (Bool × Bool))
  | [.v (.one (.int .i64 a)), .v (.one (.int .i64 b)), .v (.one (.int .i64 s))], hb => some (I (divPV a b s), hb || divPH a b s, [])
  | _, _ => none
theorem sumFdiv : SumOK Try.prog 24 (accSum 26 fdivS) := by
  refine sumxdiv.acc_re fun args hb v h' cs hF _ => ?_
  unfold fdivS at hF
  split at hF
  · rename_i a b s
    cases hF
    show ∃ cs', xdivT a b s hb = _ ∧ _
    unfold xdivT divPV divPH
    by_cases h1 : s < 0
    · rw [cond_t (decide_eq_true h1), if_pos h1, decide_eq_true h1]
      exact ⟨[], by simp [I], ae_nil⟩
    · rw [cond_f (decide_eq_false h1), if_neg h1, decide_eq_false h1]
      by_cases h2 : s > 66
      · rw [cond_t (decide_eq_true h2), if_pos h2, decide_eq_true h2]
        exact ⟨[], by simp [I], ae_nil⟩
      · rw [cond_f (decide_eq_false h2), if_neg h2, decide_eq_false h2]
        have hp := pow2_pos s.toNat
        have hp1 : pow2 s.toNat ≤ 73786976294838206464 := pow2_le (n := 66) _ (by omega) (by decide)
        have ha := absV_sat a
        have h0 := absV_nn (satV a)
        have hq : absV (pow2 s.toNat) ≤ 73786976294838206464 := by rw [absV_pos (by omega)]; exact hp1
        have hm := prod_lt ha hq
        have hn : absV (satV a) * pow2 s.toNat ≤ 1152921504606846976 * 73786976294838206464 := Int.mul_le_mul ha hp1 (by omega) (by omega)
        rw [wVal_mk]
        refine ⟨[(isI (wHi (satV a * pow2 s.toNat)), true), (isU (wLo (satV a * pow2 s.toNat)), true), (isI (satV b), true), (isI (satV a), true), (decide (0 ≤ s) && decide (s ≤ 127), true), (decide (absV (satV a) * pow2 s.toNat < 170141183460469231731687303715884105728), true)], by simp only [I, Bool.or_assoc, Bool.false_or], ?_⟩
        simp only [isU_lo, isI_sat, isI_hi (v := satV a * pow2 s.toNat) (by omega) (by omega), all_tt, Bool.and_eq_true, decide_eq_true_eq]
        exact ⟨trivial, trivial, trivial, trivial, ⟨by omega, by omega⟩, by omega, ae_nil⟩
  · cases hF

def mulDivV (a b d : Int) : Int := byV (satV a * satV b) (satV d)
def mulDivH (a b d : Int) : Bool := satH a || (satH b || (satH d || byH (satV a * satV b) (satV d)))
def fmdS : List LV → Bool → Option (LV × Bool × List (Bool × Bool))
  | [.v (.one (.int .i64 a)), .v (.one (.int .i64 b)), .v (.one (.int .i64 d))], hb => some (I (mulDivV a b d), hb || mulDivH a b d, [])
  | _, _ => none
theorem sumFmd : SumOK Try.prog 26 (accSum 26 fmdS) := by
  refine sumxmuldiv.acc_re fun args hb v h' cs hF _ => ?_
  unfold fmdS at hF
  split at hF
  · rename_i a b d
    cases hF
    show ∃ cs', xmuldivT a b d hb = _ ∧ _
    unfold xmuldivT
    rw [wVal_mk]
    refine ⟨[(isI (wHi (satV a * satV b)), true), (isU (wLo (satV a * satV b)), true), (isI (satV d), true), (isI (satV a), true), (isI (satV b), true)], by simp only [I, mulDivV, mulDivH, Bool.or_assoc], ?_⟩
    simp only [isI_hi_ss, isU_lo, isI_sat]
    simp
  · cases hF

def S14 : FuncId → Option SumK := more (more (more S13 22 (accSum 26 fmulS)) 24 (accSum 26 fdivS)) 26 (accSum 26 fmdS)
theorem sound14 : Sound Try.prog S14 := ((sound13.more sumFmul).more sumFdiv).more sumFmd
end Go.Proofs.Ytnabopepomjncaa

/- The local evaluator: summaries of functions that are handed slices of numbers. -/
namespace Go.Lr
open Go.RowKit

/-- A call in a memory of its own: what it leaves of it; nothing else that was there has turned. -/
structure Lcl (E : Env) (m m' : Mem) (w w' : World) : Prop where
  os : w'.os = w.os
  tape : w'.tape = w.tape
  output : w'.output = w.output
  size : w.heap.size ≤ w'.heap.size
  frame : ∀ b, b < w.heap.size → (∀ i, (getM m i).isSome → (E i).1 ≠ b) → w'.heap[b]? = w.heap[b]?
  blk : ∀ i b, getM m' i = some b → blkAt E i b w'

section
variable {P : Program} {S : FuncId → Option SumK} {z : Md}

theorem lcl_of {E E' : Env} {A B : St} {m m' : Mem} {w w' : World} (hA : A.mem = m) (hr : MRel E' B w') (hx : Ext w E A w' E' B)
    (hg : ∀ i b, getM m' i = some b → getM B.mem i = some b ∧ i < A.nb ∧ okL (below A.nb) b.cells = true) : Lcl E m m' w w' := by
  subst hA
  refine ⟨hx.os, hx.tape, hx.output, hx.size, hx.frame, fun i b hib => ?_⟩
  obtain ⟨h1, h2, h3⟩ := hg i b hib
  obtain ⟨r, g1, g2, g3⟩ := hr.rel.blk i b h1
  rw [hx.agree i h2] at g1 g3
  refine ⟨r, ?_, g2, g3⟩
  rw [g1, denL_congr (E := E) (E' := E') (p := below A.nb) (fun j hj => hx.agree j (by simpa [below, nblt] using hj)) h3]

/-- Off a run. -/
theorem lcl_of_run (hs : Sound P S) {n : Nat} {f : FuncId} {args : List LV} {m m' m2 : Mem} {nb nb' : Nat} {dec : List (Option Bool)} {v : LV} {cs : List (Bool × Bool)} (hrun : runF P S z n f args m nb dec = some (v, m2, nb', cs))
    (hg : ∀ i b, getM m' i = some b → getM m2 i = some b ∧ i < nb ∧ okL (below nb) b.cells = true) (hc : ∀ c ∈ cs, c.1 = c.2) (hm : memOKb nb m = true) (ha : ∀ u ∈ args, u.ok (below nb) = true) (hv : v.ok noP = true)
    (E : Env) (w : World) (hrel : Rel E (getM m) w) : Calls P f (args.map (LV.den E)).toArray w fun e w' => e = .returned (v.den E0) ∧ Lcl E m m' w w' := by
  obtain ⟨s', h1, h2, h3, h4⟩ := runF_body hrun
  obtain ⟨k1, k2⟩ := memOKb_ok hm
  obtain ⟨v', b1, b2, b3, b4, b5, b6, b7, b8⟩ := (exec_sound (binOK P) hs.sums hs.mix hs.ng n).2.2.2 f args _ _ s' h1 k1 k2 ha
  cases b1
  refine (b8 (by rw [Good, h4]; exact hc) E w ⟨hrel, k1, k2⟩).mono ?_
  rintro e w' ⟨E', rfl, hmr, hx⟩
  exact ⟨by rw [den_noP hv], lcl_of rfl hmr hx fun i b hib => by rw [h2]; exact hg i b hib⟩

/-- Off a walk in pieces. -/
theorem lcl_of_To {f : FuncId} {fn : Func} {c : Code} {args : List LV} {m m' : Mem} {nb : Nat} {B : Kst} {e : Ex} {v : LV} (hf : P.funcs[f]? = some fn) (hb : fn.body = some c)
    (hle : fn.ntmps ≤ 60000) (hargs : args.length ≤ fn.ntmps) (hA : ∀ u ∈ args, u.ok (below nb) = true) (hm : memOKb nb m = true)
    (h : To P fn.ntmps c ⟨argsL 0 args, m, nb⟩ e B) (he : e = .normal ∨ e = .ret)
    (hres : ∀ dead, resultsD P fn.results.toList (getT (B.tm dead)) B.mem = some v) (hv : v.ok noP = true)
    (hg : ∀ i b, getM m' i = some b → getM B.mem i = some b ∧ i < nb ∧ okL (below nb) b.cells = true)
    (E : Env) (w : World) (hrel : Rel E (getM m) w) : Calls P f (args.map (LV.den E)).toArray w fun e w' => e = .returned (v.den E0) ∧ Lcl E m m' w w' := by
  obtain ⟨k1, k2⟩ := memOKb_ok hm
  refine (calls_of_To hf hb hle hargs hA k1 k2 h he hres E w hrel).mono ?_
  rintro e w' ⟨E', rfl, hmr, hx⟩
  exact ⟨by rw [den_noP hv], lcl_of rfl hmr hx hg⟩

/-- Numbers in cells. -/
def getInts : List At → Nat → Option (List Int)
  | _, 0 => some []
  | .int .i64 x :: l, n + 1 => match getInts l n with
    | some r => some (x :: r)
    | none => none
  | _, _ + 1 => none

def toI : At → Int
  | .int .i64 x => x
  | _ => 0
def isI64 : At → Bool
  | .int .i64 _ => true
  | _ => false
def intL (l : List At) : List Int := l.map toI
def isIntL (l : List At) : Bool := l.all isI64

/-- So many numbers lie there. -/
def IntsAt (l : List At) (o : Nat) (xs : List Int) : Prop := ∀ j (h : j < xs.length), atL l (o + j) = some (.int .i64 xs[j])

theorem atL_eq : ∀ (l : List At) (n : Nat), atL l n = l[n]?
  | [], n => by simp [atL]
  | a :: l, 0 => by simp [atL]
  | a :: l, n + 1 => by simp [atL, atL_eq l n]
theorem atL_drop (l : List At) (o n : Nat) : atL (l.drop o) n = atL l (o + n) := by rw [atL_eq, atL_eq, List.getElem?_drop]

theorem getInts_at : ∀ (n : Nat) (l : List At) (xs : List Int), getInts l n = some xs → xs.length = n ∧ IntsAt l 0 xs
  | 0, l, xs, h => by simp only [getInts] at h; cases h; exact ⟨rfl, fun j hj => by simp at hj⟩
  | n + 1, l, xs, h => by
    unfold getInts at h
    split at h
    · rename_i h' ; cases h'
    · rename_i x l' n' hn
      cases hn
      split at h
      · rename_i r hr
        cases h
        obtain ⟨h1, h2⟩ := getInts_at n l' r hr
        refine ⟨by simp [h1], fun j hj => ?_⟩
        cases j with
        | zero => rfl
        | succ j => have := h2 j (by simpa using hj); simpa [atL] using this
      · cases h
    · cases h
theorem IntsAt.drop {l : List At} {o : Nat} {xs : List Int} (h : IntsAt (l.drop o) 0 xs) : IntsAt l o xs := fun j hj => by
  have := h j hj
  rw [atL_drop] at this
  simpa using this
theorem intL_len (l : List At) : (intL l).length = l.length := by simp [intL]
theorem isIntL_at (l : List At) (h : isIntL l = true) : IntsAt l 0 (intL l) := by
  intro j hj
  rw [atL_eq, Nat.zero_add]
  have hj' : j < l.length := by simpa [intL] using hj
  rw [List.getElem?_eq_getElem hj']
  have := List.all_eq_true.1 h l[j] (List.getElem_mem hj')
  simp only [intL, List.getElem_map]
  generalize l[j] = a at this ⊢
  unfold isI64 at this
  split at this
  · rfl
  · cases this
theorem intAt_of {l : List At} {o : Nat} {x : Int} (h : atL l o = some (.int .i64 x)) : intAt l o = x ∧ isIntAt .i64 l o = true := by
  unfold intAt isIntAt; rw [h]; exact ⟨rfl, rfl⟩

/-- An argument, seen by a summary. -/
inductive AV where
  | pl (v : LV)
  | ints (xs : List Int)

/-- A slice's block. -/
def slB : LV → Option Nat
  | .v (.one (.sl b _ _ _)) => some b
  | .v (.one (.slu b _)) => some b
  | .v (.one (.slx b _ _ _)) => some b
  | _ => none
def isNilS : LV → Bool
  | .v (.one .nilsl) => true
  | _ => false

def rdA : List LV → Option (List Nat)
  | [] => some []
  | v :: l => match slB v with
    | some b => match rdA l with
      | some r => some (b :: r)
      | none => none
    | none => match v.ok noP with
      | true => rdA l
      | false => none

/-- The numbers of a slice (elements of es cells each). -/
def slInts (es : Nat) (s : LV) (k : Blk) : Option (List Int × List (Bool × Bool)) :=
  match s with
  | .v (.one (.sl _ o n c)) => match Nat.ble n c, getInts (k.cells.drop o) (n * es), okL noP k.cells with
    | true, some xs, true => some (xs, [])
    | _, _, _ => none
  | .v (.one (.slu _ n)) => match Nat.beq k.es es, Nat.ble 1 es with
    | true, true => some (intL (k.cells.take (n * es)), [(isIntL (k.cells.take (n * es)) && (okL noP k.cells && decide (n * es ≤ k.cells.length)), true)])
    | _, _ => none
  | .v (.one (.slx _ o n c)) => some (intL ((k.cells.drop o).take (n * es)), [(isIntL ((k.cells.drop o).take (n * es)) && (okL noP k.cells && (decide (o + n * es ≤ k.cells.length) && decide (n ≤ c))), true)])
  | _ => none

def avA (es : Nat) : List LV → List Blk → Option (List AV × List (Bool × Bool))
  | [], _ => some ([], [])
  | v :: l, bs => match slB v with
    | some _ => match bs with
      | k :: bs => match slInts es v k with
        | some (xs, cs) => match avA es l bs with
          | some (r, cs') => some (.ints xs :: r, cs ++ cs')
          | none => none
        | none => none
      | [] => none
    | none => match isNilS v with
      | true => match avA es l bs with
        | some (r, cs') => some (.ints [] :: r, cs')
        | none => none
      | false => match avA es l bs with
        | some (r, cs') => some (.pl v :: r, cs')
        | none => none

/-- A flag, plain values, slices of numbers (of es cells each). -/
def acSum (ty : TypeId) (es : Nat) (F : List AV → Bool → Option (LV × Bool × List (Bool × Bool))) : Sum := fun args =>
  match args with
  | .v (.one (.ptr c 0)) :: rest => match rdA rest with
    | some bl => match memB bl c with
      | false => some ⟨bl, [c], fun rdB wB _ => match wB with
        | [⟨t, (0, 0), 0, [.bool h]⟩] => match Nat.beq t ty with
          | true => match avA es rest rdB with
            | some (avs, cs0) => match F avs h with
              | some (v, h', cs) => match v.ok noP with
                | true => some ⟨v, [flag ty h'], [], cs0 ++ cs⟩
                | false => none
              | none => none
            | none => none
          | false => none
        | _ => none⟩
      | true => none
    | none => none
  | _ => none

theorem post_lcl {w w' : World} {E : Env} {g : Nat → Option Blk} {nb c : Nat} {v : LV} {ty : TypeId} {h h' : Bool} (hr : Rel E g w) (hc : g c = some (flag ty h))
    (hos : w'.os = w.os) (htape : w'.tape = w.tape) (hout : w'.output = w.output) (hsz : w.heap.size ≤ w'.heap.size)
    (hthis : blkAt E c (flag ty h') w') (hrest : ∀ i b, i ≠ c → g i = some b → blkAt E i b w') (hfr : ∀ b, b < w.heap.size → (∀ i, (g i).isSome → (E i).1 ≠ b) → w'.heap[b]? = w.heap[b]?) :
    Post w E g nb ⟨v, [(c, some (flag ty h'))], [], [], []⟩ E w' := by
  refine ⟨fun _ _ => rfl, ⟨fun i b hb => ?_, fun i j hi hj he => ?_⟩, hos, htape, hout, hsz, hfr, fun i h1 h2 => by simp at h2; omega⟩
  · simp only [nwG, wrG] at hb
    by_cases hi : i = c
    · subst hi
      rw [if_pos rfl] at hb
      cases hb
      exact hthis
    · rw [if_neg hi] at hb
      exact hrest i b hi hb
  · simp only [nwG, wrG] at hi hj
    refine hr.inj i j ?_ ?_ he
    · by_cases h1 : i = c
      · rw [h1]; simp [hc]
      · simpa [if_neg h1] using hi
    · by_cases h1 : j = c
      · rw [h1]; simp [hc]
      · simpa [if_neg h1] using hj

/-- A slice, told by its numbers: of the local block 1. -/
def SlAt (es : Nat) (k : Blk) (o n : Nat) (xs : List Int) : Prop := xs.length = n * es ∧ IntsAt k.cells o xs ∧ okL noP k.cells = true

theorem blkAt_ren {E E' : Env} {i j : Nat} {b : Blk} {w : World} (hb : okL noP b.cells = true) (he : E' j = E i) (h : blkAt E i b w) : blkAt E' j b w := by
  obtain ⟨r, h1, h2, h3⟩ := h
  refine ⟨r, ?_, h2, fun hne => by rw [he]; exact h3 hne⟩
  rw [he, h1, denA_noP (E := E') hb, denA_noP (E := E) hb]

/-- From a local call to the summary's: the blocks' local numbers. -/
theorem call_up {f : FuncId} (ho : Own P f) {args args' : List LV} {m m' : Mem} {ren : Nat → Nat} {g : Nat → Option Blk} {nb c : Nat} {ty : TypeId} {h h' : Bool} {v : LV} {E E1 : Env} {w : World}
    (hE : ∀ i, E1 i = E (ren i)) (hrel : Rel E g w) (hc : g c = some (flag ty h)) (h0 : getM m' 0 = some (flag ty h')) (hren0 : ren 0 = c) (hm : ∀ i b, getM m i = some b → g (ren i) = some b)
    (hm' : ∀ i b, i ≠ 0 → getM m i = some b → getM m' i = some b) (hok : ∀ i b, getM m i = some b → okL noP b.cells = true)
    (hargs : args.map (LV.den E) = args'.map (LV.den E1)) (hv : v.ok noP = true)
    (hcall : Calls P f (args'.map (LV.den E1)).toArray w fun e w' => e = .returned (v.den E0) ∧ Lcl E1 m m' w w') :
    CallOK P f (args.map (LV.den E)).toArray w fun u w' => ∃ E', u = v.den E' ∧ Post w E g nb ⟨v, [(c, some (flag ty h'))], [], [], []⟩ E' w' := by
  obtain ⟨fn, f1, f2, f3⟩ := ho
  rw [hargs]
  refine .inl ⟨fn, f1, f2, f3, hcall.mono ?_⟩
  rintro e w' ⟨rfl, hl⟩
  have hfr : ∀ b, b < w.heap.size → (∀ i, (getM m i).isSome → (E1 i).1 ≠ b) → w'.heap[b]? = w.heap[b]? := hl.frame
  refine ⟨_, rfl, E, (den_noP hv).symm, post_lcl hrel hc hl.os hl.tape hl.output hl.size ?_ (fun i b hi hib => ?_) fun b hb hne => hfr b hb fun i hi => ?_⟩
  · exact blkAt_ren (E := E1) (i := 0) rfl (by rw [hE, hren0]) (hl.blk 0 _ h0)
  · by_cases hex : ∃ j, (getM m j).isSome ∧ ren j = i
    · obtain ⟨j, hj, rfl⟩ := hex
      obtain ⟨b', hb'⟩ := Option.isSome_iff_exists.1 hj
      have : b' = b := by have := hm j b' hb'; rw [hib] at this; cases this; rfl
      subst this
      have hj0 : j ≠ 0 := fun e => hi (by rw [e, hren0])
      exact blkAt_ren (E := E1) (i := j) (hok j _ hb') (hE j).symm (hl.blk j _ (hm' j _ hj0 hb'))
    · obtain ⟨r, g1, g2, g3⟩ := hrel.blk i b hib
      refine ⟨r, ?_, g2, g3⟩
      rw [hfr _ (Array.getElem?_eq_some_iff.1 g1).1 fun j hj e => hex ⟨j, hj, ?_⟩]
      · exact g1
      · obtain ⟨b', hb'⟩ := Option.isSome_iff_exists.1 hj
        rw [hE] at e
        exact hrel.inj _ _ (by rw [hm j b' hb']; rfl) (by rw [hib]; rfl) e
  · obtain ⟨b', hb'⟩ := Option.isSome_iff_exists.1 hi
    rw [hE]
    exact hne _ (by rw [hm i b' hb']; rfl)

theorem rel2 {E E1 : Env} {g : Nat → Option Blk} {w : World} {c b : Nat} {kc k : Blk} (hrel : Rel E g w) (hkc : g c = some kc) (hk : g b = some k) (hcb : c ≠ b) (o0 : okL noP kc.cells = true) (o1 : okL noP k.cells = true)
    (h0 : E1 0 = E c) (h1 : E1 1 = E b) : Rel E1 (getM [(0, kc), (1, k)]) w := by
  refine ⟨fun i q hq => ?_, fun i j hi hj he => ?_⟩
  · rw [getM_cons] at hq
    by_cases hi : i = 0
    · subst hi; rw [if_pos rfl] at hq; cases hq; exact blkAt_ren o0 h0 (hrel.blk c _ hkc)
    · rw [if_neg hi, getM_cons] at hq
      by_cases hi1 : i = 1
      · subst hi1; rw [if_pos rfl] at hq; cases hq; exact blkAt_ren o1 h1 (hrel.blk b _ hk)
      · rw [if_neg hi1] at hq; simp [getM] at hq
  · have two : ∀ i, (getM [(0, kc), (1, k)] i).isSome → i = 0 ∨ i = 1 := by
      intro i hi
      rw [getM_cons] at hi
      by_cases h0 : i = 0
      · exact .inl h0
      · rw [if_neg h0, getM_cons] at hi
        by_cases h1 : i = 1
        · exact .inr h1
        · rw [if_neg h1] at hi; simp [getM] at hi
    rcases two i hi with rfl | rfl <;> rcases two j hj with rfl | rfl
    · rfl
    · rw [h0, h1] at he; exact absurd (hrel.inj c b (by simp [hkc]) (by simp [hk]) he) hcb
    · rw [h0, h1] at he; exact absurd (hrel.inj b c (by simp [hk]) (by simp [hkc]) he).symm hcb
    · rfl
theorem get2 {kc k q : Blk} {i : Nat} (hq : getM [(0, kc), (1, k)] i = some q) : (i = 0 ∧ q = kc) ∨ (i = 1 ∧ q = k) := by
  rw [getM_cons] at hq
  by_cases hi : i = 0
  · subst hi; rw [if_pos rfl] at hq; cases hq; exact .inl ⟨rfl, rfl⟩
  · rw [if_neg hi, getM_cons] at hq
    by_cases hi1 : i = 1
    · subst hi1; rw [if_pos rfl] at hq; cases hq; exact .inr ⟨rfl, rfl⟩
    · rw [if_neg hi1] at hq; simp [getM] at hq
theorem get1 {kc q : Blk} {i : Nat} (hq : getM [(0, kc)] i = some q) : i = 0 ∧ q = kc := by
  rw [getM_cons] at hq
  by_cases hi : i = 0
  · subst hi; rw [if_pos rfl] at hq; cases hq; exact ⟨rfl, rfl⟩
  · rw [if_neg hi] at hq; simp [getM] at hq
theorem rel1 {E E1 : Env} {g : Nat → Option Blk} {w : World} {c : Nat} {kc : Blk} (hrel : Rel E g w) (hkc : g c = some kc) (o0 : okL noP kc.cells = true) (h0 : E1 0 = E c) : Rel E1 (getM [(0, kc)]) w := by
  refine ⟨fun i q hq => ?_, fun i j hi hj he => ?_⟩
  · obtain ⟨rfl, rfl⟩ := get1 hq; exact blkAt_ren o0 h0 (hrel.blk c _ hkc)
  · obtain ⟨q, hq⟩ := Option.isSome_iff_exists.1 hi
    obtain ⟨q', hq'⟩ := Option.isSome_iff_exists.1 hj
    rw [(get1 hq).1, (get1 hq').1]

/-- Two numbers' worth of a map. -/
def ren2 (a b : Nat) : Nat → Nat
  | 0 => a
  | _ => b

theorem liveAll_cons {g : Nat → Option Blk} {b : Nat} {l : List Nat} {r : List Blk} (h : liveAll g (b :: l) = some r) : ∃ k r', g b = some k ∧ liveAll g l = some r' ∧ r = k :: r' := by
  simp only [liveAll] at h
  split at h
  · rename_i k r' hk hr; cases h; exact ⟨k, r', hk, hr, rfl⟩
  · cases h
theorem liveAll_nil {g : Nat → Option Blk} {r : List Blk} (h : liveAll g [] = some r) : r = [] := by simp only [liveAll] at h; cases h; rfl

theorem take_ints {l : List At} {o m : Nat} (h : isIntL ((l.drop o).take m) = true) (hl : o + m ≤ l.length) : (intL ((l.drop o).take m)).length = m ∧ IntsAt l o (intL ((l.drop o).take m)) := by
  have e : (intL ((l.drop o).take m)).length = m := by rw [intL_len, List.length_take, List.length_drop]; omega
  refine ⟨e, fun j hj => ?_⟩
  have h1 := isIntL_at _ h j hj
  rw [e] at hj
  rw [atL_eq, Nat.zero_add, List.getElem?_take, if_pos (by omega), List.getElem?_drop, ← atL_eq] at h1
  exact h1

/-- A slice's argument, seen from the local block j. -/
theorem slInts_loc {es b : Nat} {s : LV} {k : Blk} {xs : List Int} {cs : List (Bool × Bool)} {E : Env} {w : World} (h : slInts es s k = some (xs, cs)) (hc : ∀ c ∈ cs, c.1 = c.2) (hb : slB s = some b) (hk : blkAt E b k w) :
    ∃ o n c, SlAt es k o n xs ∧ n ≤ c ∧ ∀ (E' : Env) (j : Nat), E' j = E b → s.den E = (LV.v (.one (.slx j o n c))).den E' := by
  unfold slInts at h
  split at h
  · rename_i b' o n c
    cases hb
    split at h
    · rename_i hle hx hok
      cases h
      obtain ⟨h1, h2⟩ := getInts_at _ _ _ hx
      exact ⟨o, n, c, ⟨h1, h2.drop, hok⟩, Nat.le_of_ble_eq_true hle, fun E' j hj => by simp only [LV.den, V1.den, At.den, hj]⟩
    · cases h
  · rename_i b' n
    cases hb
    split at h
    · rename_i he h1
      cases h
      rw [nbeq] at he
      have he' : k.es = es := by simpa using he
      have h1' : 1 ≤ es := Nat.le_of_ble_eq_true h1
      have := hc _ (List.mem_singleton.2 rfl)
      simp only [Bool.and_eq_true, decide_eq_true_eq] at this
      obtain ⟨a1, a2, a3⟩ := this
      have ht := take_ints (l := k.cells) (o := 0) (m := n * es) (by simpa using a1) (by omega)
      simp only [List.drop_zero] at ht
      obtain ⟨r, g1, g2, g3⟩ := hk
      have g4 := g3 (by omega)
      have hle : n ≤ (E b).2 := by
        refine Nat.le_of_mul_le_mul_right (c := es) ?_ (by omega)
        rw [he'] at g4
        omega
      exact ⟨0, n, (E b).2, ⟨ht.1, ht.2, a2⟩, hle, fun E' j hj => by simp only [LV.den, V1.den, At.den, hj]⟩
    · cases h
  · rename_i b' o n c
    cases hb
    cases h
    have := hc _ (List.mem_singleton.2 rfl)
    simp only [Bool.and_eq_true, decide_eq_true_eq] at this
    obtain ⟨a1, a2, a3, a4⟩ := this
    have ht := take_ints a1 a3
    exact ⟨o, n, c, ⟨ht.1, ht.2, a2⟩, a4, fun E' j hj => by simp only [LV.den, V1.den, At.den, hj]⟩
  · cases h

theorem shape1 {es : Nat} {xs : List Int} {g : Nat → Option Blk} : ∀ (pre : List LV) (rest : List LV) (rdB : List Blk) (bl : List Nat) (cs0 : List (Bool × Bool)), rdA rest = some bl → liveAll g bl = some rdB → avA es rest rdB = some (pre.map AV.pl ++ [.ints xs], cs0) → (∀ c ∈ cs0, c.1 = c.2) →
  plainVs pre = true ∧ ((∃ s b k cs, rest = pre ++ [s] ∧ slB s = some b ∧ bl = [b] ∧ g b = some k ∧ slInts es s k = some (xs, cs) ∧ ∀ c ∈ cs, c.1 = c.2) ∨ (rest = pre ++ [.v (.one .nilsl)] ∧ xs = [])) := by
  intro pre
  induction pre with
  | nil =>
    intro rest rdB bl cs0 h1 h2 h3 h4
    refine ⟨rfl, ?_⟩
    cases rest with
    | nil => simp [avA] at h3
    | cons s rest =>
      simp only [avA, List.map_nil, List.nil_append] at h3
      split at h3
      · rename_i b hsl
        simp only [rdA, hsl] at h1
        split at h1
        · rename_i r hr1
          cases h1
          obtain ⟨k, r', hk, hr', rfl⟩ := liveAll_cons h2
          simp only at h3
          split at h3
          · rename_i xs' cs1 hx
            split at h3
            · rename_i r2 cs2 hav
              simp only [Option.some.injEq, Prod.mk.injEq, List.cons.injEq, AV.ints.injEq] at h3
              obtain ⟨⟨rfl, hnil⟩, hcs⟩ := h3
              subst hnil
              subst hcs
              cases rest with
              | nil =>
                simp only [rdA] at hr1
                cases hr1
                exact .inl ⟨s, b, k, cs1, rfl, hsl, rfl, hk, hx, fun c hcm => h4 c (List.mem_append_left _ hcm)⟩
              | cons s2 rest2 =>
                exfalso
                simp only [avA] at hav
                (repeat' split at hav) <;> simp at hav
            · cases h3
          · cases h3
        · cases h1
      · rename_i hsl
        split at h3
        · rename_i hnil
          split at h3
          · rename_i r2 cs2 hav
            simp only [Option.some.injEq, Prod.mk.injEq, List.cons.injEq, AV.ints.injEq] at h3
            obtain ⟨⟨hx, hn2⟩, hcs⟩ := h3
            subst hn2
            cases rest with
            | nil =>
              refine .inr ⟨?_, hx.symm⟩
              unfold isNilS at hnil
              split at hnil
              · rfl
              · cases hnil
            | cons s2 rest2 =>
              exfalso
              simp only [avA] at hav
              (repeat' split at hav) <;> simp at hav
          · cases h3
        · split at h3 <;> simp at h3
  | cons q pre ih =>
    intro rest rdB bl cs0 h1 h2 h3 h4
    cases rest with
    | nil => simp [avA] at h3
    | cons s rest =>
      simp only [avA, List.map_cons, List.cons_append] at h3
      split at h3
      · rename_i b hsl
        (repeat' split at h3) <;> simp at h3
      · rename_i hsl
        split at h3
        · (repeat' split at h3) <;> simp at h3
        · split at h3
          · rename_i r2 cs2 hav
            simp only [Option.some.injEq, Prod.mk.injEq, List.cons.injEq, AV.pl.injEq] at h3
            obtain ⟨⟨rfl, hr2⟩, rfl⟩ := h3
            simp only [rdA, hsl] at h1
            split at h1
            · rename_i hq
              rw [hr2] at hav
              obtain ⟨i1, i2⟩ := ih rest rdB bl cs2 h1 h2 hav h4
              refine ⟨by simp only [plainVs, hq, i1], ?_⟩
              rcases i2 with ⟨s', b, k, cs', e1, e2⟩ | ⟨e1, e2⟩
              · exact .inl ⟨s', b, k, cs', by rw [e1]; rfl, e2⟩
              · exact .inr ⟨by rw [e1]; rfl, e2⟩
            · cases h1
          · cases h3


/-- One slice, the last argument. -/
theorem acSum1_ok {f : FuncId} (ho : Own P f) {ty : TypeId} {es : Nat} {F : List AV → Bool → Option (LV × Bool × List (Bool × Bool))}
    (hF1 : ∀ avs hb r, F avs hb = some r → ∃ (pre : List LV) (xs : List Int), avs = pre.map AV.pl ++ [.ints xs])
    (h : ∀ (pre : List LV) (xs : List Int) (hb : Bool) (v : LV) (h' : Bool) (cs : List (Bool × Bool)), F (pre.map AV.pl ++ [.ints xs]) hb = some (v, h', cs) → (∀ c ∈ cs, c.1 = c.2) → plainVs pre = true → v.ok noP = true →
      (∀ (k : Blk) (o n c : Nat), SlAt es k o n xs → n ≤ c → ∀ (E : Env) (w : World), Rel E (getM [(0, flag ty hb), (1, k)]) w →
        Calls P f ((A0 :: (pre ++ [.v (.one (.slx 1 o n c))])).map (LV.den E)).toArray w fun e w' => e = .returned (v.den E0) ∧ Lcl E [(0, flag ty hb), (1, k)] [(0, flag ty h'), (1, k)] w w') ∧
      (xs = [] → ∀ (E : Env) (w : World), Rel E (getM [(0, flag ty hb)]) w →
        Calls P f ((A0 :: (pre ++ [.v (.one .nilsl)])).map (LV.den E)).toArray w fun e w' => e = .returned (v.den E0) ∧ Lcl E [(0, flag ty hb)] [(0, flag ty h')] w w')) : SumOK P f (acSum ty es F) := by
  intro args t g nb p rdB wrB ans ws E w hs hr hw _ hgo hz hc hrel hg hargs hn
  unfold acSum at hs
  split at hs
  · rename_i c rest
    split at hs
    · rename_i bl hbl
      split at hs
      · rename_i hmem
        cases hs
        simp only at hgo hw hr
        split at hgo
        · rename_i t' hb
          split at hgo
          · rename_i hty
            rw [nbeq] at hty
            have hty' : t' = ty := by simpa using hty
            subst hty'
            split at hgo
            · rename_i avs cs0 has
              split at hgo
              · rename_i v h' cs hF
                split at hgo
                · rename_i hv
                  cases hgo
                  obtain ⟨kc, r', hkc, hr', hrr⟩ := liveAll_cons hw
                  cases liveAll_nil hr'
                  cases hrr
                  simp only [zipW] at hz
                  cases hz
                  simp only at hc ⊢
                  have hc0 : ∀ c ∈ cs0, c.1 = c.2 := fun c hcm => hc c (List.mem_append_left _ hcm)
                  have hc1 : ∀ c ∈ cs, c.1 = c.2 := fun c hcm => hc c (List.mem_append_right _ hcm)
                  obtain ⟨pre, xs, rfl⟩ := hF1 _ _ _ hF
                  obtain ⟨hp, hcase⟩ := shape1 (es := es) (xs := xs) (g := g) pre rest rdB bl cs0 hbl hr has hc0
                  obtain ⟨H1, H2⟩ := h pre xs hb v h' cs hF hc1 hp hv
                  have hpre := plainVs_iff.1 hp
                  have hf0 : (⟨t', (0, 0), 0, [.bool hb]⟩ : Blk) = flag t' hb := rfl
                  rw [hf0] at hkc
                  rcases hcase with ⟨s, b, k, csl, rfl, hsl, rfl, hk, hsi, hcl0⟩ | ⟨rfl, hx⟩
                  · have hcb : c ≠ b := fun e => by rw [e] at hmem; simp [memB] at hmem
                    obtain ⟨o, n, cc, hsa, hncc, hden⟩ := slInts_loc hsi hcl0 hsl (hrel.blk b k hk)
                    generalize hE1 : (fun i => E (ren2 c b i)) = E1
                    have hE : ∀ i, E1 i = E (ren2 c b i) := fun i => by rw [← hE1]
                    have hcl := H1 k o n cc hsa hncc E1 w (rel2 hrel hkc hk hcb rfl hsa.2.2 (hE 0) (hE 1))
                    refine call_up ho hE hrel hkc rfl rfl (fun i q hq => ?_) (fun i q h0 hq => ?_) (fun i q hq => ?_) ?_ hv hcl
                    · rcases get2 hq with ⟨rfl, rfl⟩ | ⟨rfl, rfl⟩
                      · exact hkc
                      · exact hk
                    · rw [getM_cons, if_neg h0] at hq ⊢; exact hq
                    · rcases get2 hq with ⟨rfl, rfl⟩ | ⟨rfl, rfl⟩
                      · rfl
                      · exact hsa.2.2
                    · simp only [List.map_cons, List.map_append, List.map_nil]
                      rw [hden E1 1 (hE 1), denL_noP hpre, denL_noP (E := E1) hpre]
                      congr 1
                      show LV.den E (.v (.one (.ptr c 0))) = LV.den E1 (.v (.one (.ptr 0 0)))
                      simp only [LV.den, V1.den, At.den, hE, ren2]
                  · generalize hE1 : (fun _ : Nat => E c) = E1
                    have hE : ∀ i, E1 i = E ((fun _ => c) i) := fun i => by rw [← hE1]
                    have hcl := H2 hx E1 w (rel1 hrel hkc rfl (hE 0))
                    refine call_up ho hE hrel hkc rfl rfl (fun i q hq => ?_) (fun i q h0 hq => ?_) (fun i q hq => ?_) ?_ hv hcl
                    · obtain ⟨rfl, rfl⟩ := get1 hq; exact hkc
                    · exact absurd (get1 hq).1 h0
                    · obtain ⟨rfl, rfl⟩ := get1 hq; rfl
                    · simp only [List.map_cons, List.map_append, List.map_nil]
                      rw [denL_noP hpre, denL_noP (E := E1) hpre]
                      congr 1
                      show LV.den E (.v (.one (.ptr c 0))) = LV.den E1 (.v (.one (.ptr 0 0)))
                      simp only [LV.den, V1.den, At.den, hE]
                · cases hgo
              · cases hgo
            · cases hgo
          · cases hgo
        · cases hgo
      · cases hs
    · cases hs
  · cases hs

end
end Go.Lr

/- wide.Add of two numbers. -/
namespace Go.Proofs.Ytnabopepomjncaa
open Go.Lr
set_option linter.unusedVariables false

def acc3' (r : LV × Mem × Nat × List (Bool × Bool)) : LV × Option Blk × List (Bool × Bool) := (r.1, getM r.2.1 0, r.2.2.2)
theorem wadd3 (ty : TypeId) (fr : Nat × Nat) (es : Nat) (x y u v : Int) : (runF Try.prog S14 Zl 2000 52 [.v (.one (.sl 0 0 2 2))] [(0, ⟨ty, fr, es, [.int .i64 x, .int .u64 y, .int .i64 u, .int .u64 v]⟩)] 1 [none, some false, none, some false, none]).map acc3 = some (LV.tup [V1.agg [At.int IntKind.i64 (w64 (wHi (wVal (w64 (wHi (wVal 0 0 + wVal x y))) (wLo (wVal 0 0 + wVal x y)) + wVal u v))), At.int IntKind.u64 (wLo (wVal (w64 (wHi (wVal 0 0 + wVal x y))) (wLo (wVal 0 0 + wVal x y)) + wVal u v))], V1.one (At.bool true)], some { ty := ty, fr := fr, es := es, cells := [At.int IntKind.i64 x, At.int IntKind.u64 y, At.int IntKind.i64 u, At.int IntKind.u64 v] }, [(!isW (wVal (w64 (wHi (wVal 0 0 + wVal x y))) (wLo (wVal 0 0 + wVal x y)) + wVal u v), false), (isI (w64 (wHi (wVal 0 0 + wVal x y))), true), (isU (wLo (wVal 0 0 + wVal x y)), true), (isI u, true), (isU v, true), (!isW (wVal 0 0 + wVal x y), false), (isI 0, true), (isU 0, true), (isI x, true), (isU y, true)]) := by kernel_rfl

/-- Two numbers, one after the other in a block. -/
def addSum : Sum := fun args =>
  match args with
  | [.v (.one (.sl b 0 2 2))] => some ⟨[b], [], fun rdB _ _ => match rdB with
    | [⟨_, _, _, [.int .i64 x, .int .u64 y, .int .i64 u, .int .u64 v]⟩] =>
      some ⟨.tup [W1 (wVal x y + wVal u v), .one (.bool true)], [], [], [(isI x, true), (isU y, true), (isI u, true), (isU v, true), (isW (wVal x y + wVal u v), true)]⟩
    | _ => none⟩
  | _ => none

theorem w64_wHi {v : Int} (h : isW v = true) : w64 (wHi v) = wHi v := by
  have := isW_iff.1 h; exact w64_hi this.1 this.2

theorem sumWadd : SumOK Try.prog 52 addSum := by
  intro args t g nb p rdB wrB ans ws E w hs hr hw hnd hgo hz hc hrel hg hargs hn
  unfold addSum at hs
  split at hs
  · rename_i b
    cases hs
    simp only at hgo hw hr
    split at hgo
    · rename_i ty fr es x y u v
      cases hgo
      simp only [all_tt, isI_iff, isU_iff] at hc
      obtain ⟨⟨hx0, hx1⟩, ⟨hy0, hy1⟩, ⟨hu0, hu1⟩, ⟨hv0, hv1⟩, hW, -⟩ := hc
      obtain ⟨k, r', hk, hr', hrr⟩ := liveAll_cons hr
      cases liveAll_nil hr'
      cases hrr
      cases liveAll_nil hw
      simp only [zipW] at hz
      cases hz
      have e0 : wVal 0 0 + wVal x y = wVal x y := by unfold wVal; omega
      have hW1 : isW (wVal x y) = true := by rw [isW_iff]; unfold wVal; omega
      have hrun := wadd3 ty fr es x y u v
      rw [e0, w64_wHi hW1, wVal_mk, w64_wHi hW, hW, hW1] at hrun
      cases hq : runF Try.prog S14 Zl 2000 52 [.v (.one (.sl 0 0 2 2))] [(0, ⟨ty, fr, es, [.int .i64 x, .int .u64 y, .int .i64 u, .int .u64 v]⟩)] 1 [none, some false, none, some false, none] with
      | none => rw [hq] at hrun; cases hrun
      | some q =>
        obtain ⟨v', m2, nb', cs'⟩ := q
        rw [hq] at hrun
        simp only [Option.map_some, acc3, Option.some.injEq, Prod.mk.injEq] at hrun
        obtain ⟨rfl, hm2, rfl⟩ := hrun
        generalize hE1 : (fun _ : Nat => E b) = E1
        have hE : ∀ i, E1 i = E b := fun i => by rw [← hE1]
        have hcl := lcl_of_run sound14 hq (m' := [(0, ⟨ty, fr, es, [.int .i64 x, .int .u64 y, .int .i64 u, .int .u64 v]⟩)]) (fun i c hic => by
            obtain ⟨rfl, rfl⟩ := get1 hic
            exact ⟨hm2, Nat.zero_lt_one, rfl⟩) (by
            simp only [all_tt, all_ff, isI_iff, isU_iff]
            have h1 := wHi_inI (wVal x y) (isW_iff.1 hW1).1 (isW_iff.1 hW1).2
            have h2 := wLo_in (wVal x y)
            exact ⟨rfl, ⟨h1.1, h1.2⟩, ⟨h2.1, h2.2⟩, ⟨hu0, hu1⟩, ⟨hv0, hv1⟩, rfl, ⟨by omega, by omega⟩, ⟨by omega, by omega⟩, ⟨hx0, hx1⟩, ⟨hy0, hy1⟩, ae_nil⟩) rfl (fun a ha => by
            rw [List.mem_singleton] at ha; subst ha; rfl) rfl E1 w (rel1 hrel hk rfl (hE 0))
        obtain ⟨fn, f1, f2, f3⟩ := own_of sound14 Try.func52 (by kernel_rfl)
        have ha : ([.v (.one (.sl b 0 2 2))] : List LV).map (LV.den E) = ([.v (.one (.sl 0 0 2 2))] : List LV).map (LV.den E1) := by
          simp only [List.map_cons, List.map_nil, LV.den, V1.den, At.den, hE]
        rw [ha]
        refine .inl ⟨fn, f1, f2, f3, hcl.mono ?_⟩
        rintro e w' ⟨rfl, hl⟩
        refine ⟨_, rfl, E, (den_noP rfl).symm, ?_⟩
        refine ⟨fun _ _ => rfl, ⟨fun i c hic => ?_, hrel.inj⟩, hl.os, hl.tape, hl.output, hl.size, fun j hj hne => hl.frame j hj fun i hi => ?_, fun i h1 h2 => by simp at h2; omega⟩
        · simp only [nwG, wrG] at hic
          by_cases hib : i = b
          · subst hib
            rw [hk] at hic
            cases hic
            exact blkAt_ren (E := E1) (i := 0) rfl (hE 0).symm (hl.blk 0 _ rfl)
          · obtain ⟨r, g1, g2, g3⟩ := hrel.blk i c hic
            refine ⟨r, ?_, g2, g3⟩
            rw [hl.frame _ (Array.getElem?_eq_some_iff.1 g1).1 fun j hj e => hib (hrel.inj i b (by simp [hic]) (by simp [hk]) (by rw [hE] at e; exact e.symm))]
            exact g1
        · rw [hE]
          exact hne b (by simp [hk])
    · cases hgo
  · cases hs

def S15 : FuncId → Option SumK := more S14 52 addSum
theorem sound15 : Sound Try.prog S15 := sound14.more sumWadd
end Go.Proofs.Ytnabopepomjncaa
