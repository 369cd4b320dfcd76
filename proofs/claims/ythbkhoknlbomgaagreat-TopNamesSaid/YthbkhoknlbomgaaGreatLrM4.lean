/- Joined texts. What each part proves stands ahead of it; no condition. -/
import Derived.Test.YthbkhoknlbomgaaGreatLrM3
import Derived.Test.YthbkhoknlbomgaaGreatLrLenBits

/- wide: Mul, Round, Shift, by every path of their runs (printed by contract.py). -/
namespace Go.Proofs.YthbkhoknlbomgaaGreat
open Go.Lr
theorem wmulR1 (a b : Int) : (runF Tryz.prog S6 Zl 2000 63 [.v (.one (.int .i64 a)), .v (.one (.int .i64 b))] [] 0 []).map (fun r => (r.1, r.2.2.2)) = some (LV.v (V1.agg [At.int IntKind.i64 (w64 (wHi (sgn (!decide (a < 0) == decide (b < 0)) (wVal (absV a * absV b / 18446744073709551616) (absV a * absV b % 18446744073709551616))))), At.int IntKind.u64 (wLo (sgn (!decide (a < 0) == decide (b < 0)) (wVal (absV a * absV b / 18446744073709551616) (absV a * absV b % 18446744073709551616))))]), [(isU (absV a * absV b / 18446744073709551616), true), (isU (absV a * absV b % 18446744073709551616), true), (isU (absV a), true), (isU (absV b), true), (isI b, true), (isI a, true)]) := by kernel_rfl
def wmulT (a b : Int) : Option (LV × List (Bool × Bool)) := some (LV.v (V1.agg [At.int IntKind.i64 (w64 (wHi (sgn (!decide (a < 0) == decide (b < 0)) (wVal (absV a * absV b / 18446744073709551616) (absV a * absV b % 18446744073709551616))))), At.int IntKind.u64 (wLo (sgn (!decide (a < 0) == decide (b < 0)) (wVal (absV a * absV b / 18446744073709551616) (absV a * absV b % 18446744073709551616))))]), [(isU (absV a * absV b / 18446744073709551616), true), (isU (absV a * absV b % 18446744073709551616), true), (isU (absV a), true), (isU (absV b), true), (isI b, true), (isI a, true)])
def wmulF : List LV → Option (LV × List (Bool × Bool))
  | [.v (.one (.int .i64 a)), .v (.one (.int .i64 b))] => wmulT a b
  | _ => none
theorem sumwmul : SumOK Tryz.prog 63 (pureSum wmulF) := by
  refine pureSum_run (z := Zl) sound6 (own_of sound6 Tryz.func63 (by kernel_rfl)) fun args v cs hF hc => ?_
  unfold wmulF at hF
  split at hF
  · rename_i a b
    unfold wmulT at hF
    cases hF
    exact ⟨2000, [], _, wmulR1 a b, ae_cons (hd_of (hc)) (ae_cons (hd_of (tl_of (hc))) (ae_cons (hd_of (tl_of (tl_of (hc)))) (ae_cons (hd_of (tl_of (tl_of (tl_of (hc))))) (ae_cons (hd_of (tl_of (tl_of (tl_of (tl_of (hc)))))) (ae_cons (hd_of (tl_of (tl_of (tl_of (tl_of (tl_of (hc))))))) (ae_nil))))))⟩
  · cases hF
theorem wroundR1 (x y s : Int) : (runF Tryz.prog S6 Zl 2000 65 [.v (.agg [.int .i64 x, .int .u64 y]), .v (.one (.int .i64 s))] [] 0 [some true, some true, some true, none]).map (fun r => (r.1, r.2.2.2)) = some (LV.tup [V1.one (At.int IntKind.i64 0), V1.one (At.bool false)], [(decide (s < 0), true), (decide (s < 0), true), (decide (s < 0), true)]) := by kernel_rfl
theorem wroundR2 (x y s : Int) : (runF Tryz.prog S6 Zl 2000 65 [.v (.agg [.int .i64 x, .int .u64 y]), .v (.one (.int .i64 s))] [] 0 [some false, some false, some false, some true]).map (fun r => (r.1, r.2.2.2)) = some (LV.tup [V1.one (At.int IntKind.i64 0), V1.one (At.bool false)], [(decide (s > 126), true), (decide (s < 0), false), (decide (s < 0), false), (decide (s < 0), false)]) := by kernel_rfl
theorem wroundR3 (x y s : Int) : (runF Tryz.prog S6 Zl 2000 65 [.v (.agg [.int .i64 x, .int .u64 y]), .v (.one (.int .i64 s))] [] 0 [some false, some false, some false, some false, some true]).map (fun r => (r.1, r.2.2.2)) = some (LV.tup [V1.one (At.int IntKind.i64 (if isI (sgn (decide (wVal x y < 0)) (wVal (wHi (wVal (wHi ((wVal (wHi (absV (wVal x y))) (wLo (absV (wVal x y))) + wVal (wHi (wVal 0 1 * pow2 (wr IntKind.i64 (s - 1)).toNat % 340282366920938463463374607431768211456)) (wLo (wVal 0 1 * pow2 (wr IntKind.i64 (s - 1)).toNat % 340282366920938463463374607431768211456))) % 340282366920938463463374607431768211456)) (wLo ((wVal (wHi (absV (wVal x y))) (wLo (absV (wVal x y))) + wVal (wHi (wVal 0 1 * pow2 (wr IntKind.i64 (s - 1)).toNat % 340282366920938463463374607431768211456)) (wLo (wVal 0 1 * pow2 (wr IntKind.i64 (s - 1)).toNat % 340282366920938463463374607431768211456))) % 340282366920938463463374607431768211456)) / pow2 s.toNat)) (wLo (wVal (wHi ((wVal (wHi (absV (wVal x y))) (wLo (absV (wVal x y))) + wVal (wHi (wVal 0 1 * pow2 (wr IntKind.i64 (s - 1)).toNat % 340282366920938463463374607431768211456)) (wLo (wVal 0 1 * pow2 (wr IntKind.i64 (s - 1)).toNat % 340282366920938463463374607431768211456))) % 340282366920938463463374607431768211456)) (wLo ((wVal (wHi (absV (wVal x y))) (wLo (absV (wVal x y))) + wVal (wHi (wVal 0 1 * pow2 (wr IntKind.i64 (s - 1)).toNat % 340282366920938463463374607431768211456)) (wLo (wVal 0 1 * pow2 (wr IntKind.i64 (s - 1)).toNat % 340282366920938463463374607431768211456))) % 340282366920938463463374607431768211456)) / pow2 s.toNat)))) = true then sgn (decide (wVal x y < 0)) (wVal (wHi (wVal (wHi ((wVal (wHi (absV (wVal x y))) (wLo (absV (wVal x y))) + wVal (wHi (wVal 0 1 * pow2 (wr IntKind.i64 (s - 1)).toNat % 340282366920938463463374607431768211456)) (wLo (wVal 0 1 * pow2 (wr IntKind.i64 (s - 1)).toNat % 340282366920938463463374607431768211456))) % 340282366920938463463374607431768211456)) (wLo ((wVal (wHi (absV (wVal x y))) (wLo (absV (wVal x y))) + wVal (wHi (wVal 0 1 * pow2 (wr IntKind.i64 (s - 1)).toNat % 340282366920938463463374607431768211456)) (wLo (wVal 0 1 * pow2 (wr IntKind.i64 (s - 1)).toNat % 340282366920938463463374607431768211456))) % 340282366920938463463374607431768211456)) / pow2 s.toNat)) (wLo (wVal (wHi ((wVal (wHi (absV (wVal x y))) (wLo (absV (wVal x y))) + wVal (wHi (wVal 0 1 * pow2 (wr IntKind.i64 (s - 1)).toNat % 340282366920938463463374607431768211456)) (wLo (wVal 0 1 * pow2 (wr IntKind.i64 (s - 1)).toNat % 340282366920938463463374607431768211456))) % 340282366920938463463374607431768211456)) (wLo ((wVal (wHi (absV (wVal x y))) (wLo (absV (wVal x y))) + wVal (wHi (wVal 0 1 * pow2 (wr IntKind.i64 (s - 1)).toNat % 340282366920938463463374607431768211456)) (wLo (wVal 0 1 * pow2 (wr IntKind.i64 (s - 1)).toNat % 340282366920938463463374607431768211456))) % 340282366920938463463374607431768211456)) / pow2 s.toNat))) else 0)), V1.one (At.bool (isI (sgn (decide (wVal x y < 0)) (wVal (wHi (wVal (wHi ((wVal (wHi (absV (wVal x y))) (wLo (absV (wVal x y))) + wVal (wHi (wVal 0 1 * pow2 (wr IntKind.i64 (s - 1)).toNat % 340282366920938463463374607431768211456)) (wLo (wVal 0 1 * pow2 (wr IntKind.i64 (s - 1)).toNat % 340282366920938463463374607431768211456))) % 340282366920938463463374607431768211456)) (wLo ((wVal (wHi (absV (wVal x y))) (wLo (absV (wVal x y))) + wVal (wHi (wVal 0 1 * pow2 (wr IntKind.i64 (s - 1)).toNat % 340282366920938463463374607431768211456)) (wLo (wVal 0 1 * pow2 (wr IntKind.i64 (s - 1)).toNat % 340282366920938463463374607431768211456))) % 340282366920938463463374607431768211456)) / pow2 s.toNat)) (wLo (wVal (wHi ((wVal (wHi (absV (wVal x y))) (wLo (absV (wVal x y))) + wVal (wHi (wVal 0 1 * pow2 (wr IntKind.i64 (s - 1)).toNat % 340282366920938463463374607431768211456)) (wLo (wVal 0 1 * pow2 (wr IntKind.i64 (s - 1)).toNat % 340282366920938463463374607431768211456))) % 340282366920938463463374607431768211456)) (wLo ((wVal (wHi (absV (wVal x y))) (wLo (absV (wVal x y))) + wVal (wHi (wVal 0 1 * pow2 (wr IntKind.i64 (s - 1)).toNat % 340282366920938463463374607431768211456)) (wLo (wVal 0 1 * pow2 (wr IntKind.i64 (s - 1)).toNat % 340282366920938463463374607431768211456))) % 340282366920938463463374607431768211456)) / pow2 s.toNat))))))], [(isU (wHi (wVal (wHi ((wVal (wHi (absV (wVal x y))) (wLo (absV (wVal x y))) + wVal (wHi (wVal 0 1 * pow2 (wr IntKind.i64 (s - 1)).toNat % 340282366920938463463374607431768211456)) (wLo (wVal 0 1 * pow2 (wr IntKind.i64 (s - 1)).toNat % 340282366920938463463374607431768211456))) % 340282366920938463463374607431768211456)) (wLo ((wVal (wHi (absV (wVal x y))) (wLo (absV (wVal x y))) + wVal (wHi (wVal 0 1 * pow2 (wr IntKind.i64 (s - 1)).toNat % 340282366920938463463374607431768211456)) (wLo (wVal 0 1 * pow2 (wr IntKind.i64 (s - 1)).toNat % 340282366920938463463374607431768211456))) % 340282366920938463463374607431768211456)) / pow2 s.toNat)), true), (isU (wLo (wVal (wHi ((wVal (wHi (absV (wVal x y))) (wLo (absV (wVal x y))) + wVal (wHi (wVal 0 1 * pow2 (wr IntKind.i64 (s - 1)).toNat % 340282366920938463463374607431768211456)) (wLo (wVal 0 1 * pow2 (wr IntKind.i64 (s - 1)).toNat % 340282366920938463463374607431768211456))) % 340282366920938463463374607431768211456)) (wLo ((wVal (wHi (absV (wVal x y))) (wLo (absV (wVal x y))) + wVal (wHi (wVal 0 1 * pow2 (wr IntKind.i64 (s - 1)).toNat % 340282366920938463463374607431768211456)) (wLo (wVal 0 1 * pow2 (wr IntKind.i64 (s - 1)).toNat % 340282366920938463463374607431768211456))) % 340282366920938463463374607431768211456)) / pow2 s.toNat)), true), (isU (wHi ((wVal (wHi (absV (wVal x y))) (wLo (absV (wVal x y))) + wVal (wHi (wVal 0 1 * pow2 (wr IntKind.i64 (s - 1)).toNat % 340282366920938463463374607431768211456)) (wLo (wVal 0 1 * pow2 (wr IntKind.i64 (s - 1)).toNat % 340282366920938463463374607431768211456))) % 340282366920938463463374607431768211456)), true), (isU (wLo ((wVal (wHi (absV (wVal x y))) (wLo (absV (wVal x y))) + wVal (wHi (wVal 0 1 * pow2 (wr IntKind.i64 (s - 1)).toNat % 340282366920938463463374607431768211456)) (wLo (wVal 0 1 * pow2 (wr IntKind.i64 (s - 1)).toNat % 340282366920938463463374607431768211456))) % 340282366920938463463374607431768211456)), true), (decide (0 ≤ s) && decide (s < 128), true), (isU (wHi (absV (wVal x y))), true), (isU (wLo (absV (wVal x y))), true), (isU (wHi (wVal 0 1 * pow2 (wr IntKind.i64 (s - 1)).toNat % 340282366920938463463374607431768211456)), true), (isU (wLo (wVal 0 1 * pow2 (wr IntKind.i64 (s - 1)).toNat % 340282366920938463463374607431768211456)), true), (isU 0, true), (isU 1, true), (decide (0 ≤ wr IntKind.i64 (s - 1)) && decide (wr IntKind.i64 (s - 1) < 128), true), (decide (s > 0), true), (isI x, true), (isU y, true), (decide (s > 126), false), (decide (s < 0), false), (decide (s < 0), false), (decide (s < 0), false)]) := by kernel_rfl
theorem wroundR4 (x y s : Int) : (runF Tryz.prog S6 Zl 2000 65 [.v (.agg [.int .i64 x, .int .u64 y]), .v (.one (.int .i64 s))] [] 0 [some false, some false, some false, some false, some false]).map (fun r => (r.1, r.2.2.2)) = some (LV.tup [V1.one (At.int IntKind.i64 (if isI (sgn (decide (wVal x y < 0)) (wVal (wHi (wVal (wHi (absV (wVal x y))) (wLo (absV (wVal x y))) / pow2 s.toNat)) (wLo (wVal (wHi (absV (wVal x y))) (wLo (absV (wVal x y))) / pow2 s.toNat)))) = true then sgn (decide (wVal x y < 0)) (wVal (wHi (wVal (wHi (absV (wVal x y))) (wLo (absV (wVal x y))) / pow2 s.toNat)) (wLo (wVal (wHi (absV (wVal x y))) (wLo (absV (wVal x y))) / pow2 s.toNat))) else 0)), V1.one (At.bool (isI (sgn (decide (wVal x y < 0)) (wVal (wHi (wVal (wHi (absV (wVal x y))) (wLo (absV (wVal x y))) / pow2 s.toNat)) (wLo (wVal (wHi (absV (wVal x y))) (wLo (absV (wVal x y))) / pow2 s.toNat))))))], [(isU (wHi (wVal (wHi (absV (wVal x y))) (wLo (absV (wVal x y))) / pow2 s.toNat)), true), (isU (wLo (wVal (wHi (absV (wVal x y))) (wLo (absV (wVal x y))) / pow2 s.toNat)), true), (isU (wHi (absV (wVal x y))), true), (isU (wLo (absV (wVal x y))), true), (decide (0 ≤ s) && decide (s < 128), true), (decide (s > 0), false), (isI x, true), (isU y, true), (decide (s > 126), false), (decide (s < 0), false), (decide (s < 0), false), (decide (s < 0), false)]) := by kernel_rfl
def wroundT (x y s : Int) : Option (LV × List (Bool × Bool)) := 
  bif (decide (s < 0)) then some (LV.tup [V1.one (At.int IntKind.i64 0), V1.one (At.bool false)], [])
  else 
    bif (decide (s > 126)) then some (LV.tup [V1.one (At.int IntKind.i64 0), V1.one (At.bool false)], [])
    else 
      bif (decide (s > 0)) then some (LV.tup [V1.one (At.int IntKind.i64 (if isI (sgn (decide (wVal x y < 0)) (wVal (wHi (wVal (wHi ((wVal (wHi (absV (wVal x y))) (wLo (absV (wVal x y))) + wVal (wHi (wVal 0 1 * pow2 (wr IntKind.i64 (s - 1)).toNat % 340282366920938463463374607431768211456)) (wLo (wVal 0 1 * pow2 (wr IntKind.i64 (s - 1)).toNat % 340282366920938463463374607431768211456))) % 340282366920938463463374607431768211456)) (wLo ((wVal (wHi (absV (wVal x y))) (wLo (absV (wVal x y))) + wVal (wHi (wVal 0 1 * pow2 (wr IntKind.i64 (s - 1)).toNat % 340282366920938463463374607431768211456)) (wLo (wVal 0 1 * pow2 (wr IntKind.i64 (s - 1)).toNat % 340282366920938463463374607431768211456))) % 340282366920938463463374607431768211456)) / pow2 s.toNat)) (wLo (wVal (wHi ((wVal (wHi (absV (wVal x y))) (wLo (absV (wVal x y))) + wVal (wHi (wVal 0 1 * pow2 (wr IntKind.i64 (s - 1)).toNat % 340282366920938463463374607431768211456)) (wLo (wVal 0 1 * pow2 (wr IntKind.i64 (s - 1)).toNat % 340282366920938463463374607431768211456))) % 340282366920938463463374607431768211456)) (wLo ((wVal (wHi (absV (wVal x y))) (wLo (absV (wVal x y))) + wVal (wHi (wVal 0 1 * pow2 (wr IntKind.i64 (s - 1)).toNat % 340282366920938463463374607431768211456)) (wLo (wVal 0 1 * pow2 (wr IntKind.i64 (s - 1)).toNat % 340282366920938463463374607431768211456))) % 340282366920938463463374607431768211456)) / pow2 s.toNat)))) = true then sgn (decide (wVal x y < 0)) (wVal (wHi (wVal (wHi ((wVal (wHi (absV (wVal x y))) (wLo (absV (wVal x y))) + wVal (wHi (wVal 0 1 * pow2 (wr IntKind.i64 (s - 1)).toNat % 340282366920938463463374607431768211456)) (wLo (wVal 0 1 * pow2 (wr IntKind.i64 (s - 1)).toNat % 340282366920938463463374607431768211456))) % 340282366920938463463374607431768211456)) (wLo ((wVal (wHi (absV (wVal x y))) (wLo (absV (wVal x y))) + wVal (wHi (wVal 0 1 * pow2 (wr IntKind.i64 (s - 1)).toNat % 340282366920938463463374607431768211456)) (wLo (wVal 0 1 * pow2 (wr IntKind.i64 (s - 1)).toNat % 340282366920938463463374607431768211456))) % 340282366920938463463374607431768211456)) / pow2 s.toNat)) (wLo (wVal (wHi ((wVal (wHi (absV (wVal x y))) (wLo (absV (wVal x y))) + wVal (wHi (wVal 0 1 * pow2 (wr IntKind.i64 (s - 1)).toNat % 340282366920938463463374607431768211456)) (wLo (wVal 0 1 * pow2 (wr IntKind.i64 (s - 1)).toNat % 340282366920938463463374607431768211456))) % 340282366920938463463374607431768211456)) (wLo ((wVal (wHi (absV (wVal x y))) (wLo (absV (wVal x y))) + wVal (wHi (wVal 0 1 * pow2 (wr IntKind.i64 (s - 1)).toNat % 340282366920938463463374607431768211456)) (wLo (wVal 0 1 * pow2 (wr IntKind.i64 (s - 1)).toNat % 340282366920938463463374607431768211456))) % 340282366920938463463374607431768211456)) / pow2 s.toNat))) else 0)), V1.one (At.bool (isI (sgn (decide (wVal x y < 0)) (wVal (wHi (wVal (wHi ((wVal (wHi (absV (wVal x y))) (wLo (absV (wVal x y))) + wVal (wHi (wVal 0 1 * pow2 (wr IntKind.i64 (s - 1)).toNat % 340282366920938463463374607431768211456)) (wLo (wVal 0 1 * pow2 (wr IntKind.i64 (s - 1)).toNat % 340282366920938463463374607431768211456))) % 340282366920938463463374607431768211456)) (wLo ((wVal (wHi (absV (wVal x y))) (wLo (absV (wVal x y))) + wVal (wHi (wVal 0 1 * pow2 (wr IntKind.i64 (s - 1)).toNat % 340282366920938463463374607431768211456)) (wLo (wVal 0 1 * pow2 (wr IntKind.i64 (s - 1)).toNat % 340282366920938463463374607431768211456))) % 340282366920938463463374607431768211456)) / pow2 s.toNat)) (wLo (wVal (wHi ((wVal (wHi (absV (wVal x y))) (wLo (absV (wVal x y))) + wVal (wHi (wVal 0 1 * pow2 (wr IntKind.i64 (s - 1)).toNat % 340282366920938463463374607431768211456)) (wLo (wVal 0 1 * pow2 (wr IntKind.i64 (s - 1)).toNat % 340282366920938463463374607431768211456))) % 340282366920938463463374607431768211456)) (wLo ((wVal (wHi (absV (wVal x y))) (wLo (absV (wVal x y))) + wVal (wHi (wVal 0 1 * pow2 (wr IntKind.i64 (s - 1)).toNat % 340282366920938463463374607431768211456)) (wLo (wVal 0 1 * pow2 (wr IntKind.i64 (s - 1)).toNat % 340282366920938463463374607431768211456))) % 340282366920938463463374607431768211456)) / pow2 s.toNat))))))], [(isU (wHi (wVal (wHi ((wVal (wHi (absV (wVal x y))) (wLo (absV (wVal x y))) + wVal (wHi (wVal 0 1 * pow2 (wr IntKind.i64 (s - 1)).toNat % 340282366920938463463374607431768211456)) (wLo (wVal 0 1 * pow2 (wr IntKind.i64 (s - 1)).toNat % 340282366920938463463374607431768211456))) % 340282366920938463463374607431768211456)) (wLo ((wVal (wHi (absV (wVal x y))) (wLo (absV (wVal x y))) + wVal (wHi (wVal 0 1 * pow2 (wr IntKind.i64 (s - 1)).toNat % 340282366920938463463374607431768211456)) (wLo (wVal 0 1 * pow2 (wr IntKind.i64 (s - 1)).toNat % 340282366920938463463374607431768211456))) % 340282366920938463463374607431768211456)) / pow2 s.toNat)), true), (isU (wLo (wVal (wHi ((wVal (wHi (absV (wVal x y))) (wLo (absV (wVal x y))) + wVal (wHi (wVal 0 1 * pow2 (wr IntKind.i64 (s - 1)).toNat % 340282366920938463463374607431768211456)) (wLo (wVal 0 1 * pow2 (wr IntKind.i64 (s - 1)).toNat % 340282366920938463463374607431768211456))) % 340282366920938463463374607431768211456)) (wLo ((wVal (wHi (absV (wVal x y))) (wLo (absV (wVal x y))) + wVal (wHi (wVal 0 1 * pow2 (wr IntKind.i64 (s - 1)).toNat % 340282366920938463463374607431768211456)) (wLo (wVal 0 1 * pow2 (wr IntKind.i64 (s - 1)).toNat % 340282366920938463463374607431768211456))) % 340282366920938463463374607431768211456)) / pow2 s.toNat)), true), (isU (wHi ((wVal (wHi (absV (wVal x y))) (wLo (absV (wVal x y))) + wVal (wHi (wVal 0 1 * pow2 (wr IntKind.i64 (s - 1)).toNat % 340282366920938463463374607431768211456)) (wLo (wVal 0 1 * pow2 (wr IntKind.i64 (s - 1)).toNat % 340282366920938463463374607431768211456))) % 340282366920938463463374607431768211456)), true), (isU (wLo ((wVal (wHi (absV (wVal x y))) (wLo (absV (wVal x y))) + wVal (wHi (wVal 0 1 * pow2 (wr IntKind.i64 (s - 1)).toNat % 340282366920938463463374607431768211456)) (wLo (wVal 0 1 * pow2 (wr IntKind.i64 (s - 1)).toNat % 340282366920938463463374607431768211456))) % 340282366920938463463374607431768211456)), true), (decide (0 ≤ s) && decide (s < 128), true), (isU (wHi (absV (wVal x y))), true), (isU (wLo (absV (wVal x y))), true), (isU (wHi (wVal 0 1 * pow2 (wr IntKind.i64 (s - 1)).toNat % 340282366920938463463374607431768211456)), true), (isU (wLo (wVal 0 1 * pow2 (wr IntKind.i64 (s - 1)).toNat % 340282366920938463463374607431768211456)), true), (isU 0, true), (isU 1, true), (decide (0 ≤ wr IntKind.i64 (s - 1)) && decide (wr IntKind.i64 (s - 1) < 128), true), (isI x, true), (isU y, true)])
      else some (LV.tup [V1.one (At.int IntKind.i64 (if isI (sgn (decide (wVal x y < 0)) (wVal (wHi (wVal (wHi (absV (wVal x y))) (wLo (absV (wVal x y))) / pow2 s.toNat)) (wLo (wVal (wHi (absV (wVal x y))) (wLo (absV (wVal x y))) / pow2 s.toNat)))) = true then sgn (decide (wVal x y < 0)) (wVal (wHi (wVal (wHi (absV (wVal x y))) (wLo (absV (wVal x y))) / pow2 s.toNat)) (wLo (wVal (wHi (absV (wVal x y))) (wLo (absV (wVal x y))) / pow2 s.toNat))) else 0)), V1.one (At.bool (isI (sgn (decide (wVal x y < 0)) (wVal (wHi (wVal (wHi (absV (wVal x y))) (wLo (absV (wVal x y))) / pow2 s.toNat)) (wLo (wVal (wHi (absV (wVal x y))) (wLo (absV (wVal x y))) / pow2 s.toNat))))))], [(isU (wHi (wVal (wHi (absV (wVal x y))) (wLo (absV (wVal x y))) / pow2 s.toNat)), true), (isU (wLo (wVal (wHi (absV (wVal x y))) (wLo (absV (wVal x y))) / pow2 s.toNat)), true), (isU (wHi (absV (wVal x y))), true), (isU (wLo (absV (wVal x y))), true), (decide (0 ≤ s) && decide (s < 128), true), (isI x, true), (isU y, true)])
def wroundF : List LV → Option (LV × List (Bool × Bool))
  | [.v (.agg [.int .i64 x, .int .u64 y]), .v (.one (.int .i64 s))] => wroundT x y s
  | _ => none
theorem sumwround : SumOK Tryz.prog 65 (pureSum wroundF) := by
  refine pureSum_run (z := Zl) sound6 (own_of sound6 Tryz.func65 (by kernel_rfl)) fun args v cs hF hc => ?_
  unfold wroundF at hF
  split at hF
  · rename_i x y s
    unfold wroundT at hF
    rcases bool_cases (decide (s < 0)) with h0 | h0
    · rw [cond_t h0] at hF
      cases hF
      exact ⟨2000, [some true, some true, some true, none], _, wroundR1 x y s, ae_cons (h0) (ae_cons (h0) (ae_cons (h0) (ae_nil)))⟩
    · rw [cond_f h0] at hF
      rcases bool_cases (decide (s > 126)) with h1 | h1
      · rw [cond_t h1] at hF
        cases hF
        exact ⟨2000, [some false, some false, some false, some true], _, wroundR2 x y s, ae_cons (h1) (ae_cons (h0) (ae_cons (h0) (ae_cons (h0) (ae_nil))))⟩
      · rw [cond_f h1] at hF
        rcases bool_cases (decide (s > 0)) with h2 | h2
        · rw [cond_t h2] at hF
          cases hF
          exact ⟨2000, [some false, some false, some false, some false, some true], _, wroundR3 x y s, ae_cons (hd_of (hc)) (ae_cons (hd_of (tl_of (hc))) (ae_cons (hd_of (tl_of (tl_of (hc)))) (ae_cons (hd_of (tl_of (tl_of (tl_of (hc))))) (ae_cons (hd_of (tl_of (tl_of (tl_of (tl_of (hc)))))) (ae_cons (hd_of (tl_of (tl_of (tl_of (tl_of (tl_of (hc))))))) (ae_cons (hd_of (tl_of (tl_of (tl_of (tl_of (tl_of (tl_of (hc)))))))) (ae_cons (hd_of (tl_of (tl_of (tl_of (tl_of (tl_of (tl_of (tl_of (hc))))))))) (ae_cons (hd_of (tl_of (tl_of (tl_of (tl_of (tl_of (tl_of (tl_of (tl_of (hc)))))))))) (ae_cons (hd_of (tl_of (tl_of (tl_of (tl_of (tl_of (tl_of (tl_of (tl_of (tl_of (hc))))))))))) (ae_cons (hd_of (tl_of (tl_of (tl_of (tl_of (tl_of (tl_of (tl_of (tl_of (tl_of (tl_of (hc)))))))))))) (ae_cons (hd_of (tl_of (tl_of (tl_of (tl_of (tl_of (tl_of (tl_of (tl_of (tl_of (tl_of (tl_of (hc))))))))))))) (ae_cons (h2) (ae_cons (hd_of (tl_of (tl_of (tl_of (tl_of (tl_of (tl_of (tl_of (tl_of (tl_of (tl_of (tl_of (tl_of (hc)))))))))))))) (ae_cons (hd_of (tl_of (tl_of (tl_of (tl_of (tl_of (tl_of (tl_of (tl_of (tl_of (tl_of (tl_of (tl_of (tl_of (hc))))))))))))))) (ae_cons (h1) (ae_cons (h0) (ae_cons (h0) (ae_cons (h0) (ae_nil)))))))))))))))))))⟩
        · rw [cond_f h2] at hF
          cases hF
          exact ⟨2000, [some false, some false, some false, some false, some false], _, wroundR4 x y s, ae_cons (hd_of (hc)) (ae_cons (hd_of (tl_of (hc))) (ae_cons (hd_of (tl_of (tl_of (hc)))) (ae_cons (hd_of (tl_of (tl_of (tl_of (hc))))) (ae_cons (hd_of (tl_of (tl_of (tl_of (tl_of (hc)))))) (ae_cons (h2) (ae_cons (hd_of (tl_of (tl_of (tl_of (tl_of (tl_of (hc))))))) (ae_cons (hd_of (tl_of (tl_of (tl_of (tl_of (tl_of (tl_of (hc)))))))) (ae_cons (h1) (ae_cons (h0) (ae_cons (h0) (ae_cons (h0) (ae_nil))))))))))))⟩
  · cases hF
theorem wshiftR1 (a s : Int) : (runF Tryz.prog S6 Zl 2000 76 [.v (.one (.int .i64 a)), .v (.one (.int .i64 s))] [] 0 [some true, some true, some true, none]).map (fun r => (r.1, r.2.2.2)) = some (LV.tup [V1.agg [At.int IntKind.i64 0, At.int IntKind.u64 0], V1.one (At.bool false)], [(decide (s < 0), true), (decide (s < 0), true), (decide (s < 0), true)]) := by kernel_rfl
theorem wshiftR2 (a s : Int) : (runF Tryz.prog S6 Zl 2000 76 [.v (.one (.int .i64 a)), .v (.one (.int .i64 s))] [] 0 [some false, some false, some false, some true]).map (fun r => (r.1, r.2.2.2)) = some (LV.tup [V1.agg [At.int IntKind.i64 0, At.int IntKind.u64 0], V1.one (At.bool false)], [(decide (s > 127), true), (decide (s < 0), false), (decide (s < 0), false), (decide (s < 0), false)]) := by kernel_rfl
theorem wshiftR3 (a s : Int) : (runF Tryz.prog S6 Zl 2000 76 [.v (.one (.int .i64 a)), .v (.one (.int .i64 s))] [] 0 [some false, some false, some false, some false, some true]).map (fun r => (r.1, r.2.2.2)) = some (LV.tup [V1.agg [At.int IntKind.i64 0, At.int IntKind.u64 0], V1.one (At.bool false)], [(!(wHi (wVal (wHi (wVal 0 (absV a) * pow2 s.toNat % 340282366920938463463374607431768211456)) (wLo (wVal 0 (absV a) * pow2 s.toNat % 340282366920938463463374607431768211456)) / pow2 s.toNat) == 0 && (wLo (wVal (wHi (wVal 0 (absV a) * pow2 s.toNat % 340282366920938463463374607431768211456)) (wLo (wVal 0 (absV a) * pow2 s.toNat % 340282366920938463463374607431768211456)) / pow2 s.toNat) == absV a && true)), true), (isU (wHi (wVal 0 (absV a) * pow2 s.toNat % 340282366920938463463374607431768211456)), true), (isU (wLo (wVal 0 (absV a) * pow2 s.toNat % 340282366920938463463374607431768211456)), true), (decide (0 ≤ s) && decide (s < 128), true), (isU 0, true), (isU (absV a), true), (decide (0 ≤ s) && decide (s < 128), true), (isI a, true), (decide (s > 127), false), (decide (s < 0), false), (decide (s < 0), false), (decide (s < 0), false)]) := by kernel_rfl
theorem wshiftR4 (a s : Int) : (runF Tryz.prog S6 Zl 2000 76 [.v (.one (.int .i64 a)), .v (.one (.int .i64 s))] [] 0 [some false, some false, some false, some false, some false, some true]).map (fun r => (r.1, r.2.2.2)) = some (LV.tup [V1.agg [At.int IntKind.i64 0, At.int IntKind.u64 0], V1.one (At.bool false)], [(!isW (sgn (decide (a < 0)) (wVal (wHi (wVal 0 (absV a) * pow2 s.toNat % 340282366920938463463374607431768211456)) (wLo (wVal 0 (absV a) * pow2 s.toNat % 340282366920938463463374607431768211456)))), true), (isU (wHi (wVal 0 (absV a) * pow2 s.toNat % 340282366920938463463374607431768211456)), true), (isU (wLo (wVal 0 (absV a) * pow2 s.toNat % 340282366920938463463374607431768211456)), true), (!(wHi (wVal (wHi (wVal 0 (absV a) * pow2 s.toNat % 340282366920938463463374607431768211456)) (wLo (wVal 0 (absV a) * pow2 s.toNat % 340282366920938463463374607431768211456)) / pow2 s.toNat) == 0 && (wLo (wVal (wHi (wVal 0 (absV a) * pow2 s.toNat % 340282366920938463463374607431768211456)) (wLo (wVal 0 (absV a) * pow2 s.toNat % 340282366920938463463374607431768211456)) / pow2 s.toNat) == absV a && true)), false), (isU (wHi (wVal 0 (absV a) * pow2 s.toNat % 340282366920938463463374607431768211456)), true), (isU (wLo (wVal 0 (absV a) * pow2 s.toNat % 340282366920938463463374607431768211456)), true), (decide (0 ≤ s) && decide (s < 128), true), (isU 0, true), (isU (absV a), true), (decide (0 ≤ s) && decide (s < 128), true), (isI a, true), (decide (s > 127), false), (decide (s < 0), false), (decide (s < 0), false), (decide (s < 0), false)]) := by kernel_rfl
theorem wshiftR5 (a s : Int) : (runF Tryz.prog S6 Zl 2000 76 [.v (.one (.int .i64 a)), .v (.one (.int .i64 s))] [] 0 [some false, some false, some false, some false, some false, some false]).map (fun r => (r.1, r.2.2.2)) = some (LV.tup [V1.agg [At.int IntKind.i64 (w64 (wHi (sgn (decide (a < 0)) (wVal (wHi (wVal 0 (absV a) * pow2 s.toNat % 340282366920938463463374607431768211456)) (wLo (wVal 0 (absV a) * pow2 s.toNat % 340282366920938463463374607431768211456)))))), At.int IntKind.u64 (wLo (sgn (decide (a < 0)) (wVal (wHi (wVal 0 (absV a) * pow2 s.toNat % 340282366920938463463374607431768211456)) (wLo (wVal 0 (absV a) * pow2 s.toNat % 340282366920938463463374607431768211456)))))], V1.one (At.bool true)], [(!isW (sgn (decide (a < 0)) (wVal (wHi (wVal 0 (absV a) * pow2 s.toNat % 340282366920938463463374607431768211456)) (wLo (wVal 0 (absV a) * pow2 s.toNat % 340282366920938463463374607431768211456)))), false), (isU (wHi (wVal 0 (absV a) * pow2 s.toNat % 340282366920938463463374607431768211456)), true), (isU (wLo (wVal 0 (absV a) * pow2 s.toNat % 340282366920938463463374607431768211456)), true), (!(wHi (wVal (wHi (wVal 0 (absV a) * pow2 s.toNat % 340282366920938463463374607431768211456)) (wLo (wVal 0 (absV a) * pow2 s.toNat % 340282366920938463463374607431768211456)) / pow2 s.toNat) == 0 && (wLo (wVal (wHi (wVal 0 (absV a) * pow2 s.toNat % 340282366920938463463374607431768211456)) (wLo (wVal 0 (absV a) * pow2 s.toNat % 340282366920938463463374607431768211456)) / pow2 s.toNat) == absV a && true)), false), (isU (wHi (wVal 0 (absV a) * pow2 s.toNat % 340282366920938463463374607431768211456)), true), (isU (wLo (wVal 0 (absV a) * pow2 s.toNat % 340282366920938463463374607431768211456)), true), (decide (0 ≤ s) && decide (s < 128), true), (isU 0, true), (isU (absV a), true), (decide (0 ≤ s) && decide (s < 128), true), (isI a, true), (decide (s > 127), false), (decide (s < 0), false), (decide (s < 0), false), (decide (s < 0), false)]) := by kernel_rfl
def wshiftT (a s : Int) : Option (LV × List (Bool × Bool)) := 
  bif (decide (s < 0)) then some (LV.tup [V1.agg [At.int IntKind.i64 0, At.int IntKind.u64 0], V1.one (At.bool false)], [])
  else 
    bif (decide (s > 127)) then some (LV.tup [V1.agg [At.int IntKind.i64 0, At.int IntKind.u64 0], V1.one (At.bool false)], [])
    else 
      bif (!(wHi (wVal (wHi (wVal 0 (absV a) * pow2 s.toNat % 340282366920938463463374607431768211456)) (wLo (wVal 0 (absV a) * pow2 s.toNat % 340282366920938463463374607431768211456)) / pow2 s.toNat) == 0 && (wLo (wVal (wHi (wVal 0 (absV a) * pow2 s.toNat % 340282366920938463463374607431768211456)) (wLo (wVal 0 (absV a) * pow2 s.toNat % 340282366920938463463374607431768211456)) / pow2 s.toNat) == absV a && true))) then some (LV.tup [V1.agg [At.int IntKind.i64 0, At.int IntKind.u64 0], V1.one (At.bool false)], [(isU (wHi (wVal 0 (absV a) * pow2 s.toNat % 340282366920938463463374607431768211456)), true), (isU (wLo (wVal 0 (absV a) * pow2 s.toNat % 340282366920938463463374607431768211456)), true), (decide (0 ≤ s) && decide (s < 128), true), (isU 0, true), (isU (absV a), true), (isI a, true)])
      else 
        bif (!isW (sgn (decide (a < 0)) (wVal (wHi (wVal 0 (absV a) * pow2 s.toNat % 340282366920938463463374607431768211456)) (wLo (wVal 0 (absV a) * pow2 s.toNat % 340282366920938463463374607431768211456))))) then some (LV.tup [V1.agg [At.int IntKind.i64 0, At.int IntKind.u64 0], V1.one (At.bool false)], [(isU (wHi (wVal 0 (absV a) * pow2 s.toNat % 340282366920938463463374607431768211456)), true), (isU (wLo (wVal 0 (absV a) * pow2 s.toNat % 340282366920938463463374607431768211456)), true), (decide (0 ≤ s) && decide (s < 128), true), (isU 0, true), (isU (absV a), true), (isI a, true)])
        else some (LV.tup [V1.agg [At.int IntKind.i64 (w64 (wHi (sgn (decide (a < 0)) (wVal (wHi (wVal 0 (absV a) * pow2 s.toNat % 340282366920938463463374607431768211456)) (wLo (wVal 0 (absV a) * pow2 s.toNat % 340282366920938463463374607431768211456)))))), At.int IntKind.u64 (wLo (sgn (decide (a < 0)) (wVal (wHi (wVal 0 (absV a) * pow2 s.toNat % 340282366920938463463374607431768211456)) (wLo (wVal 0 (absV a) * pow2 s.toNat % 340282366920938463463374607431768211456)))))], V1.one (At.bool true)], [(isU (wHi (wVal 0 (absV a) * pow2 s.toNat % 340282366920938463463374607431768211456)), true), (isU (wLo (wVal 0 (absV a) * pow2 s.toNat % 340282366920938463463374607431768211456)), true), (decide (0 ≤ s) && decide (s < 128), true), (isU 0, true), (isU (absV a), true), (isI a, true)])
def wshiftF : List LV → Option (LV × List (Bool × Bool))
  | [.v (.one (.int .i64 a)), .v (.one (.int .i64 s))] => wshiftT a s
  | _ => none
theorem sumwshift : SumOK Tryz.prog 76 (pureSum wshiftF) := by
  refine pureSum_run (z := Zl) sound6 (own_of sound6 Tryz.func76 (by kernel_rfl)) fun args v cs hF hc => ?_
  unfold wshiftF at hF
  split at hF
  · rename_i a s
    unfold wshiftT at hF
    rcases bool_cases (decide (s < 0)) with h0 | h0
    · rw [cond_t h0] at hF
      cases hF
      exact ⟨2000, [some true, some true, some true, none], _, wshiftR1 a s, ae_cons (h0) (ae_cons (h0) (ae_cons (h0) (ae_nil)))⟩
    · rw [cond_f h0] at hF
      rcases bool_cases (decide (s > 127)) with h1 | h1
      · rw [cond_t h1] at hF
        cases hF
        exact ⟨2000, [some false, some false, some false, some true], _, wshiftR2 a s, ae_cons (h1) (ae_cons (h0) (ae_cons (h0) (ae_cons (h0) (ae_nil))))⟩
      · rw [cond_f h1] at hF
        rcases bool_cases (!(wHi (wVal (wHi (wVal 0 (absV a) * pow2 s.toNat % 340282366920938463463374607431768211456)) (wLo (wVal 0 (absV a) * pow2 s.toNat % 340282366920938463463374607431768211456)) / pow2 s.toNat) == 0 && (wLo (wVal (wHi (wVal 0 (absV a) * pow2 s.toNat % 340282366920938463463374607431768211456)) (wLo (wVal 0 (absV a) * pow2 s.toNat % 340282366920938463463374607431768211456)) / pow2 s.toNat) == absV a && true))) with h2 | h2
        · rw [cond_t h2] at hF
          cases hF
          exact ⟨2000, [some false, some false, some false, some false, some true], _, wshiftR3 a s, ae_cons (h2) (ae_cons (hd_of (hc)) (ae_cons (hd_of (tl_of (hc))) (ae_cons (hd_of (tl_of (tl_of (hc)))) (ae_cons (hd_of (tl_of (tl_of (tl_of (hc))))) (ae_cons (hd_of (tl_of (tl_of (tl_of (tl_of (hc)))))) (ae_cons (hd_of (tl_of (tl_of (hc)))) (ae_cons (hd_of (tl_of (tl_of (tl_of (tl_of (tl_of (hc))))))) (ae_cons (h1) (ae_cons (h0) (ae_cons (h0) (ae_cons (h0) (ae_nil))))))))))))⟩
        · rw [cond_f h2] at hF
          rcases bool_cases (!isW (sgn (decide (a < 0)) (wVal (wHi (wVal 0 (absV a) * pow2 s.toNat % 340282366920938463463374607431768211456)) (wLo (wVal 0 (absV a) * pow2 s.toNat % 340282366920938463463374607431768211456))))) with h3 | h3
          · rw [cond_t h3] at hF
            cases hF
            exact ⟨2000, [some false, some false, some false, some false, some false, some true], _, wshiftR4 a s, ae_cons (h3) (ae_cons (hd_of (hc)) (ae_cons (hd_of (tl_of (hc))) (ae_cons (h2) (ae_cons (hd_of (hc)) (ae_cons (hd_of (tl_of (hc))) (ae_cons (hd_of (tl_of (tl_of (hc)))) (ae_cons (hd_of (tl_of (tl_of (tl_of (hc))))) (ae_cons (hd_of (tl_of (tl_of (tl_of (tl_of (hc)))))) (ae_cons (hd_of (tl_of (tl_of (hc)))) (ae_cons (hd_of (tl_of (tl_of (tl_of (tl_of (tl_of (hc))))))) (ae_cons (h1) (ae_cons (h0) (ae_cons (h0) (ae_cons (h0) (ae_nil)))))))))))))))⟩
          · rw [cond_f h3] at hF
            cases hF
            exact ⟨2000, [some false, some false, some false, some false, some false, some false], _, wshiftR5 a s, ae_cons (h3) (ae_cons (hd_of (hc)) (ae_cons (hd_of (tl_of (hc))) (ae_cons (h2) (ae_cons (hd_of (hc)) (ae_cons (hd_of (tl_of (hc))) (ae_cons (hd_of (tl_of (tl_of (hc)))) (ae_cons (hd_of (tl_of (tl_of (tl_of (hc))))) (ae_cons (hd_of (tl_of (tl_of (tl_of (tl_of (hc)))))) (ae_cons (hd_of (tl_of (tl_of (hc)))) (ae_cons (hd_of (tl_of (tl_of (tl_of (tl_of (tl_of (hc))))))) (ae_cons (h1) (ae_cons (h0) (ae_cons (h0) (ae_cons (h0) (ae_nil)))))))))))))))⟩
  · cases hF
end Go.Proofs.YthbkhoknlbomgaaGreat

/- wide: what Mul, Round, Shift come to, in numbers. -/
namespace Go.Proofs.YthbkhoknlbomgaaGreat
open Go.Lr
set_option linter.unusedVariables false
set_option linter.unusedSimpArgs false
theorem absI {a : Int} (h0 : -9223372036854775808 ≤ a) (h1 : a < 9223372036854775808) : absV a ≤ 9223372036854775808 := by unfold absV; split <;> omega
theorem isU_lo (v : Int) : isU (wLo v) = true := isU_iff.2 (wLo_in v)
theorem w64_hi {v : Int} (h0 : -170141183460469231731687303715884105728 ≤ v) (h1 : v < 170141183460469231731687303715884105728) : w64 (wHi v) = wHi v := w64_in (wHi_inI v h0 h1).1 (wHi_inI v h0 h1).2
def mulS : List LV → Option (LV × List (Bool × Bool))
  | [.v (.one (.int .i64 a)), .v (.one (.int .i64 b))] => some (.v (W1 (a * b)), [(isI a, true), (isI b, true)])
  | _ => none
theorem sumMul : SumOK Tryz.prog 63 (pureSum mulS) := by
  refine sumwmul.pure_re fun args v cs hF hc => ?_
  unfold mulS at hF
  split at hF
  · rename_i a b
    cases hF
    simp only [all_tt, isI_iff] at hc
    obtain ⟨⟨ha0, ha1⟩, ⟨hb0, hb1⟩, -⟩ := hc
    have pa := absI ha0 ha1
    have pb := absI hb0 hb1
    obtain ⟨q0, q1⟩ := prod_lt pa pb
    have na := absV_nn a
    have nb := absV_nn b
    have n0 := Int.mul_nonneg na nb
    have n1 : absV a * absV b ≤ 9223372036854775808 * 9223372036854775808 := Int.mul_le_mul pa pb nb (by omega)
    have e : wVal (absV a * absV b / 18446744073709551616) (absV a * absV b % 18446744073709551616) = absV a * absV b := wVal_mk _
    refine ⟨_, agg2 (a := w64 _) _ ?_ ?_, ?_⟩
    · rw [e, sgn_mul, w64_hi (by omega) (by omega)]
    · rw [e, sgn_mul]
    · simp only [all_tt, isU_iff, isI_iff]
      refine ⟨⟨?_, ?_⟩, ⟨?_, ?_⟩, ⟨?_, ?_⟩, ⟨?_, ?_⟩, ⟨?_, ?_⟩, ⟨?_, ?_⟩, ae_nil⟩ <;> omega
  · cases hF
theorem halfP_le (s : Nat) : 0 ≤ halfP s ∧ halfP s ≤ pow2 s := by
  cases s with
  | zero => exact ⟨by decide, by decide⟩
  | succ n => have := pow2_pos n; have := pow2_succ n; exact ⟨by show 0 ≤ pow2 n; omega, by show pow2 n ≤ pow2 (n + 1); omega⟩
def roundS : List LV → Option (LV × List (Bool × Bool))
  | [.v (.agg [.int .i64 x, .int .u64 y]), .v (.one (.int .i64 s))] =>
    some (.tup [.one (.int .i64 (if isI (rndV (wVal x y) s.toNat) = true then rndV (wVal x y) s.toNat else 0)), .one (.bool (isI (rndV (wVal x y) s.toNat)))], [(isI x, true), (isU y, true), (decide (0 ≤ s) && decide (s ≤ 126), true)])
  | _ => none
theorem sumRound : SumOK Tryz.prog 65 (pureSum roundS) := by
  refine sumwround.pure_re fun args v cs hF hc => ?_
  unfold roundS at hF
  split at hF
  · rename_i x y s
    cases hF
    simp only [all_tt, isI_iff, isU_iff, Bool.and_eq_true, decide_eq_true_eq] at hc
    obtain ⟨⟨hx0, hx1⟩, ⟨hy0, hy1⟩, ⟨hs0, hs1⟩, -⟩ := hc
    show ∃ cs', wroundT x y s = _ ∧ _
    have hv0 : -170141183460469231731687303715884105728 ≤ wVal x y := by unfold wVal; omega
    have hv1 : wVal x y < 170141183460469231731687303715884105728 := by unfold wVal; omega
    generalize hv : wVal x y = v at *
    have va : absV v ≤ 170141183460469231731687303715884105728 := by unfold absV; split <;> omega
    have va0 := absV_nn v
    unfold wroundT
    rw [cond_f (decide_eq_false (by omega)), cond_f (decide_eq_false (by omega))]
    simp only [wVal_mk, hv]
    have e01 : wVal 0 1 = 1 := rfl
    have hp := pow2_pos s.toNat
    by_cases h : s > 0
    · have hw : wr .i64 (s - 1) = s - 1 := w64s (by omega) (by omega)
      have hn : s.toNat = (s - 1).toNat + 1 := by omega
      have hp1 := pow2_pos (s - 1).toNat
      have hp2 : pow2 (s - 1).toNat ≤ 85070591730234615865843651857942052864 := pow2_le (n := 126) _ (by omega) (by decide)
      have e1 : 1 * pow2 (s - 1).toNat % 340282366920938463463374607431768211456 = pow2 (s - 1).toNat := by rw [Int.one_mul]; omega
      have e2 : (absV v + pow2 (s - 1).toNat) % 340282366920938463463374607431768211456 = absV v + pow2 (s - 1).toNat := by omega
      have q0 : 0 ≤ (absV v + pow2 (s - 1).toNat) / pow2 s.toNat := Int.ediv_nonneg (by omega) (by omega)
      have q1 : (absV v + pow2 (s - 1).toNat) / pow2 s.toNat ≤ absV v + pow2 (s - 1).toNat := Int.ediv_le_self _ (by omega)
      have er : rndV v s.toNat = sgn (decide (v < 0)) ((absV v + pow2 (s - 1).toNat) / pow2 s.toNat) := by
        unfold rndV; congr 2; rw [hn]; rfl
      rw [cond_t (decide_eq_true h)]
      simp only [hw, e01, e1, e2, ← er]
      refine ⟨_, rfl, ?_⟩
      simp only [all_tt, isU_iff, isI_iff, Bool.and_eq_true, decide_eq_true_eq]
      repeat' apply And.intro
      all_goals first | exact ae_nil | (unfold wHi; omega) | (unfold wLo; omega) | omega
    · have hs : s = 0 := by omega
      subst hs
      have e1 : pow2 (Int.toNat 0) = 1 := rfl
      have er : rndV v (Int.toNat 0) = sgn (decide (v < 0)) (absV v / pow2 (Int.toNat 0)) := by
        unfold rndV; congr 2; show absV v + 0 = _; omega
      rw [cond_f (decide_eq_false h)]
      simp only [← er]
      refine ⟨_, rfl, ?_⟩
      simp only [all_tt, isU_iff, isI_iff, Bool.and_eq_true, decide_eq_true_eq, e1, Int.ediv_one]
      repeat' apply And.intro
      all_goals first | exact ae_nil | (unfold wHi; omega) | (unfold wLo; omega) | omega
  · cases hF
def shiftS : List LV → Option (LV × List (Bool × Bool))
  | [.v (.one (.int .i64 a)), .v (.one (.int .i64 s))] =>
    some (.tup [W1 (a * pow2 s.toNat), .one (.bool true)], [(isI a, true), (decide (0 ≤ s) && decide (s ≤ 127), true), (decide (absV a * pow2 s.toNat < 170141183460469231731687303715884105728), true)])
  | _ => none
theorem sumShift : SumOK Tryz.prog 76 (pureSum shiftS) := by
  refine sumwshift.pure_re fun args v cs hF hc => ?_
  unfold shiftS at hF
  split at hF
  · rename_i a s
    cases hF
    simp only [all_tt, isI_iff, isU_iff, Bool.and_eq_true, decide_eq_true_eq] at hc
    obtain ⟨⟨ha0, ha1⟩, ⟨hs0, hs1⟩, hb, -⟩ := hc
    show ∃ cs', wshiftT a s = _ ∧ _
    have pa := absI ha0 ha1
    have na := absV_nn a
    have hp := pow2_pos s.toNat
    have n0 : 0 ≤ absV a * pow2 s.toNat := Int.mul_nonneg na (by omega)
    have e0 : wVal 0 (absV a) = absV a := by unfold wVal; omega
    have e1 : absV a * pow2 s.toNat % 340282366920938463463374607431768211456 = absV a * pow2 s.toNat := by omega
    have e2 : absV a * pow2 s.toNat / pow2 s.toNat = absV a := Int.mul_ediv_cancel _ (by omega)
    have e3 : sgn (decide (a < 0)) (absV a * pow2 s.toNat) = a * pow2 s.toNat := by
      by_cases h : a < 0
      · unfold sgn absV; simp [h]
        grind
      · unfold sgn absV; simp [h]
    have e4 : wHi (absV a) = 0 := by unfold wHi; omega
    have e5 : wLo (absV a) = absV a := by unfold wLo; omega
    have hR : -170141183460469231731687303715884105728 ≤ a * pow2 s.toNat ∧ a * pow2 s.toNat < 170141183460469231731687303715884105728 := by
      have h4 : absV (a * pow2 s.toNat) = absV a * pow2 s.toNat := by rw [absV_mul, absV_pos (a := pow2 s.toNat) (by omega)]
      have h5 : absV (a * pow2 s.toNat) < 170141183460469231731687303715884105728 := by rw [h4]; exact hb
      generalize a * pow2 s.toNat = t at h5 ⊢
      unfold absV at h5
      split at h5 <;> omega
    unfold wshiftT
    rw [cond_f (decide_eq_false (by omega)), cond_f (decide_eq_false (by omega))]
    simp only [wVal_mk, e0, e1, e2, e3, e4, e5]
    rw [cond_f (by simp), cond_f (by rw [isW_iff.2 ⟨hR.1, hR.2⟩]; rfl)]
    refine ⟨_, tup21 _ (w64_hi hR.1 hR.2) rfl rfl, ?_⟩
    simp only [all_tt, isU_iff, isI_iff, Bool.and_eq_true, decide_eq_true_eq]
    repeat' apply And.intro
    all_goals first | exact ae_nil | (unfold wHi; omega) | (unfold wLo; omega) | omega
  · cases hF
end Go.Proofs.YthbkhoknlbomgaaGreat

/- math/bits.Len64 and LeadingZeros64: what they come to. -/
namespace Go.Proofs.YthbkhoknlbomgaaGreat
open Go.Lr
theorem bitLenAux_spec : ∀ (f x : Nat), 0 < x → x < 2 ^ f → 1 ≤ Lib.bitLenAux f x ∧ Lib.bitLenAux f x ≤ f ∧ 2 ^ (Lib.bitLenAux f x - 1) ≤ x ∧ x < 2 ^ Lib.bitLenAux f x
  | 0, x, h0, h1 => by simp at h1; omega
  | f + 1, x, h0, h1 => by
    simp only [Lib.bitLenAux]
    rw [if_neg (by omega)]
    by_cases h : x / 2 = 0
    · have : x = 1 := by omega
      subst this
      have : Lib.bitLenAux f (1 / 2) = 0 := by cases f <;> simp [Lib.bitLenAux]
      rw [this]
      exact ⟨by omega, by omega, by decide, by decide⟩
    · obtain ⟨a, b, c, d⟩ := bitLenAux_spec f (x / 2) (by omega) (by rw [Nat.pow_succ] at h1; omega)
      generalize Lib.bitLenAux f (x / 2) = n at *
      refine ⟨by omega, by omega, ?_, ?_⟩
      · have e : 1 + n - 1 = (n - 1) + 1 := by omega
        rw [e, Nat.pow_succ]; omega
      · have e : 1 + n = n + 1 := by omega
        rw [e, Nat.pow_succ]; omega
theorem bitLen_spec (x : Nat) (h0 : 0 < x) (h1 : x < 2 ^ 64) : 1 ≤ Lib.bitLen x ∧ Lib.bitLen x ≤ 64 ∧ 2 ^ (Lib.bitLen x - 1) ≤ x ∧ x < 2 ^ Lib.bitLen x := bitLenAux_spec 64 x h0 h1
def len64S : List LV → Option (LV × List (Bool × Bool))
  | [.v (.one (.int .u64 x))] => some (.v (.one (.int .i64 (Lib.bitLen x.toNat))), [(isU x, true)])
  | _ => none
theorem sumLen64 : SumOK Tryz.prog 222 (pureSum len64S) := by
  refine pureSum_ok fun args v cs hF hc w => ?_
  unfold len64S at hF
  split at hF
  · rename_i x
    cases hF
    obtain ⟨h0, h1⟩ := isU_iff.1 (hc (isU x, true) (by simp))
    refine callOK_of (own_of sound0 Tryz.func222 (by kernel_rfl)) ((lenBits x w h0 (by omega)).mono fun e w' he => ⟨he.1, ?_⟩)
    rw [he.2]; exact .refl _ _
  · cases hF
def S7 : FuncId → Option SumK := more (more (more (more S6 222 (pureSum len64S)) 63 (pureSum mulS)) 65 (pureSum roundS)) 76 (pureSum shiftS)
theorem sound7 : Sound Tryz.prog S7 := (((sound6.more sumLen64).more sumMul).more sumRound).more sumShift
def lzV (x : Int) : Int := 64 - (Lib.bitLen x.toNat : Int)
def lzS : List LV → Option (LV × List (Bool × Bool))
  | [.v (.one (.int .u64 x))] => some (.v (.one (.int .i64 (lzV x))), [(isU x, true), (decide (0 < x), true)])
  | _ => none
theorem runLz (x : Int) : (runF Tryz.prog S7 Zl 200 213 [.v (.one (.int .u64 x))] [] 0 []).map (fun r => (r.1, r.2.2.2)) = some (.v (.one (.int .i64 (wr .i64 (64 - (Lib.bitLen x.toNat : Int))))), [(isU x, true)]) := by kernel_rfl
theorem lzV_spec {x : Int} (h0 : 0 < x) (h1 : x < 18446744073709551616) : 0 ≤ lzV x ∧ lzV x ≤ 63 ∧ 9223372036854775808 ≤ x * pow2 (lzV x).toNat ∧ x * pow2 (lzV x).toNat < 18446744073709551616 := by
  obtain ⟨a, b, c, d⟩ := bitLen_spec x.toNat (by omega) (by omega)
  unfold lzV
  generalize Lib.bitLen x.toNat = n at *
  have e : (64 - (n : Int)).toNat = 64 - n := by omega
  rw [e]
  refine ⟨by omega, by omega, ?_, ?_⟩
  · have h2 : pow2 (n - 1) * pow2 (64 - n) = 9223372036854775808 := by
      rw [← pow2_add, show n - 1 + (64 - n) = 63 by omega]; decide
    have h3 : pow2 (n - 1) ≤ x := by
      have : ((2 ^ (n - 1) : Nat) : Int) ≤ (x.toNat : Int) := Int.ofNat_le.2 c
      have e2 : pow2 (n - 1) = ((2 ^ (n - 1) : Nat) : Int) := rfl
      omega
    calc (9223372036854775808 : Int) = pow2 (n - 1) * pow2 (64 - n) := h2.symm
      _ ≤ x * pow2 (64 - n) := Int.mul_le_mul_of_nonneg_right h3 (Int.le_of_lt (pow2_pos _))
  · have h2 : pow2 n * pow2 (64 - n) = 18446744073709551616 := by
      rw [← pow2_add, show n + (64 - n) = 64 by omega]; decide
    have h3 : x < pow2 n := by
      have : (x.toNat : Int) < ((2 ^ n : Nat) : Int) := Int.ofNat_lt.2 d
      have e2 : pow2 n = ((2 ^ n : Nat) : Int) := rfl
      omega
    calc x * pow2 (64 - n) < pow2 n * pow2 (64 - n) := Int.mul_lt_mul_of_pos_right h3 (pow2_pos _)
      _ = 18446744073709551616 := h2
theorem sumLz : SumOK Tryz.prog 213 (pureSum lzS) := by
  refine pureSum_run (z := Zl) sound7 (own_of sound7 Tryz.func213 (by kernel_rfl)) fun args v cs hF hc => ?_
  unfold lzS at hF
  split at hF
  · rename_i x
    cases hF
    simp only [all_tt, isU_iff, decide_eq_true_eq] at hc
    obtain ⟨⟨h0, h1⟩, h2, -⟩ := hc
    have h := runLz x
    obtain ⟨a, b, _, _⟩ := lzV_spec h2 h1
    have e : wr .i64 (64 - (Lib.bitLen x.toNat : Int)) = lzV x := w64s (by unfold lzV at a; omega) (by unfold lzV at b; omega)
    rw [e] at h
    exact ⟨200, [], _, h, by simp only [all_tt, isU_iff]; exact ⟨⟨h0, h1⟩, ae_nil⟩⟩
  · cases hF
def S8 : FuncId → Option SumK := more S7 213 (pureSum lzS)
theorem sound8 : Sound Tryz.prog S8 := sound7.more sumLz
end Go.Proofs.YthbkhoknlbomgaaGreat

/- wide.Root: its walk, round by round. -/
namespace Go.Proofs.YthbkhoknlbomgaaGreat
open Go.Lr
set_option linter.unusedVariables false
set_option linter.unusedSimpArgs false
theorem rootA (dead : Nat → Value) (x y : Int) : projS [4, 5] [1, 2] (execL Tryz.prog S8 Zl 200 (spineL 3 (bodyF Tryz.prog 136)) (Kst.st ⟨argsL 0 [.v (.agg [.int .i64 x, .int .u64 y])], [], 0⟩ 51 dead [some false])) = some (Ex.normal, [LV.v (V1.one (At.ptr 1 0)), LV.v (V1.one (At.ptr 2 0))], [some { ty := 234, fr := (0, 0), es := 0, cells := [At.int IntKind.u64 (wr IntKind.u64 x), At.int IntKind.u64 y] }, some { ty := 234, fr := (0, 0), es := 0, cells := [At.int IntKind.u64 0, At.int IntKind.u64 0] }], [(decide (x < 0), false)]) := by kernel_rfl
theorem rootA0 (dead : Nat → Value) (x y : Int) : projS [2, 3] [] (exec Tryz.prog S8 Zl 200 (.code (bodyF Tryz.prog 136)) (Kst.st ⟨argsL 0 [.v (.agg [.int .i64 x, .int .u64 y])], [], 0⟩ 51 dead [some true])) = some (Ex.ret, [LV.v (V1.one (At.int IntKind.i64 0)), LV.v (V1.one (At.bool false))], [], [(decide (x < 0), true)]) := by kernel_rfl
theorem rootB (dead : Nat → Value) (p q x y : Int) : projS [4, 5, 6] [1, 2] (exec Tryz.prog S8 Zl 200 (.code (c1 (c1 (dropC 3 (bodyF Tryz.prog 136))))) (Kst.st ⟨[(4, .v (.one (.ptr 1 0))), (5, .v (.one (.ptr 2 0)))], [(1, ⟨234, (0, 0), 0, [.int .u64 p, .int .u64 q]⟩), (2, ⟨234, (0, 0), 0, [.int .u64 x, .int .u64 y]⟩)], 3⟩ 51 dead [])) = some (Ex.normal, [LV.v (V1.one (At.ptr 1 0)), LV.v (V1.one (At.ptr 2 0)), LV.v (V1.one (At.int IntKind.i64 126))], [some { ty := 234, fr := (0, 0), es := 0, cells := [At.int IntKind.u64 p, At.int IntKind.u64 q] }, some { ty := 234, fr := (0, 0), es := 0, cells := [At.int IntKind.u64 x, At.int IntKind.u64 y] }], []) := by kernel_rfl
theorem rootC (dead : Nat → Value) (t p q x y : Int) : projS [4, 5] [1, 2] (exec Tryz.prog S8 Zl 200 (.code (c1 (c1 (c2 (c1 (dropC 3 (bodyF Tryz.prog 136))))))) (Kst.st ⟨[(4, .v (.one (.ptr 1 0))), (5, .v (.one (.ptr 2 0))), (6, .v (.one (.int .i64 t)))], [(1, ⟨234, (0, 0), 0, [.int .u64 p, .int .u64 q]⟩), (2, ⟨234, (0, 0), 0, [.int .u64 x, .int .u64 y]⟩)], 3⟩ 51 dead [some false])) = some (Ex.exit 0, [LV.v (V1.one (At.ptr 1 0)), LV.v (V1.one (At.ptr 2 0))], [some { ty := 234, fr := (0, 0), es := 0, cells := [At.int IntKind.u64 p, At.int IntKind.u64 q] }, some { ty := 234, fr := (0, 0), es := 0, cells := [At.int IntKind.u64 x, At.int IntKind.u64 y] }], [(decide (t ≥ 0), false)]) := by kernel_rfl
theorem rootD (dead : Nat → Value) (t p q x y : Int) : projS [4, 5, 6] [1, 2] (exec Tryz.prog S8 Zl 200 (.code (c1 (c1 (c2 (c1 (dropC 3 (bodyF Tryz.prog 136))))))) (Kst.st ⟨[(4, .v (.one (.ptr 1 0))), (5, .v (.one (.ptr 2 0))), (6, .v (.one (.int .i64 t)))], [(1, ⟨234, (0, 0), 0, [.int .u64 p, .int .u64 q]⟩), (2, ⟨234, (0, 0), 0, [.int .u64 x, .int .u64 y]⟩)], 3⟩ 51 dead [some true, some true])) = some (Ex.normal, [LV.v (V1.one (At.ptr 1 0)), LV.v (V1.one (At.ptr 2 0)), LV.v (V1.one (At.int IntKind.i64 (wr IntKind.i64 (t - 2))))], [some { ty := 234, fr := (0, 0), es := 0, cells := [At.int IntKind.u64 (wHi ((wVal p q - wVal (wHi ((wVal x y + wVal (wHi (wVal 0 1 * pow2 t.toNat % 340282366920938463463374607431768211456)) (wLo (wVal 0 1 * pow2 t.toNat % 340282366920938463463374607431768211456))) % 340282366920938463463374607431768211456)) (wLo ((wVal x y + wVal (wHi (wVal 0 1 * pow2 t.toNat % 340282366920938463463374607431768211456)) (wLo (wVal 0 1 * pow2 t.toNat % 340282366920938463463374607431768211456))) % 340282366920938463463374607431768211456))) % 340282366920938463463374607431768211456)), At.int IntKind.u64 (wLo ((wVal p q - wVal (wHi ((wVal x y + wVal (wHi (wVal 0 1 * pow2 t.toNat % 340282366920938463463374607431768211456)) (wLo (wVal 0 1 * pow2 t.toNat % 340282366920938463463374607431768211456))) % 340282366920938463463374607431768211456)) (wLo ((wVal x y + wVal (wHi (wVal 0 1 * pow2 t.toNat % 340282366920938463463374607431768211456)) (wLo (wVal 0 1 * pow2 t.toNat % 340282366920938463463374607431768211456))) % 340282366920938463463374607431768211456))) % 340282366920938463463374607431768211456))] }, some { ty := 234, fr := (0, 0), es := 0, cells := [At.int IntKind.u64 (wHi ((wVal (wHi (wVal x y / pow2 (Int.toNat 1))) (wLo (wVal x y / pow2 (Int.toNat 1))) + wVal (wHi (wVal 0 1 * pow2 t.toNat % 340282366920938463463374607431768211456)) (wLo (wVal 0 1 * pow2 t.toNat % 340282366920938463463374607431768211456))) % 340282366920938463463374607431768211456)), At.int IntKind.u64 (wLo ((wVal (wHi (wVal x y / pow2 (Int.toNat 1))) (wLo (wVal x y / pow2 (Int.toNat 1))) + wVal (wHi (wVal 0 1 * pow2 t.toNat % 340282366920938463463374607431768211456)) (wLo (wVal 0 1 * pow2 t.toNat % 340282366920938463463374607431768211456))) % 340282366920938463463374607431768211456))] }], [(isU (wHi (wVal x y / pow2 (Int.toNat 1))), true), (isU (wLo (wVal x y / pow2 (Int.toNat 1))), true), (isU (wHi (wVal 0 1 * pow2 t.toNat % 340282366920938463463374607431768211456)), true), (isU (wLo (wVal 0 1 * pow2 t.toNat % 340282366920938463463374607431768211456)), true), (isU p, true), (isU q, true), (isU (wHi ((wVal x y + wVal (wHi (wVal 0 1 * pow2 t.toNat % 340282366920938463463374607431768211456)) (wLo (wVal 0 1 * pow2 t.toNat % 340282366920938463463374607431768211456))) % 340282366920938463463374607431768211456)), true), (isU (wLo ((wVal x y + wVal (wHi (wVal 0 1 * pow2 t.toNat % 340282366920938463463374607431768211456)) (wLo (wVal 0 1 * pow2 t.toNat % 340282366920938463463374607431768211456))) % 340282366920938463463374607431768211456)), true), (!decide (wVal p q < wVal (wHi ((wVal x y + wVal (wHi (wVal 0 1 * pow2 t.toNat % 340282366920938463463374607431768211456)) (wLo (wVal 0 1 * pow2 t.toNat % 340282366920938463463374607431768211456))) % 340282366920938463463374607431768211456)) (wLo ((wVal x y + wVal (wHi (wVal 0 1 * pow2 t.toNat % 340282366920938463463374607431768211456)) (wLo (wVal 0 1 * pow2 t.toNat % 340282366920938463463374607431768211456))) % 340282366920938463463374607431768211456))), true), (isU q, true), (isU (wLo ((wVal x y + wVal (wHi (wVal 0 1 * pow2 t.toNat % 340282366920938463463374607431768211456)) (wLo (wVal 0 1 * pow2 t.toNat % 340282366920938463463374607431768211456))) % 340282366920938463463374607431768211456)), true), (isU x, true), (isU y, true), (decide (0 ≤ 1) && decide (1 < 128), true), (isU x, true), (isU y, true), (isU (wHi (wVal 0 1 * pow2 t.toNat % 340282366920938463463374607431768211456)), true), (isU (wLo (wVal 0 1 * pow2 t.toNat % 340282366920938463463374607431768211456)), true), (isU 0, true), (isU 1, true), (decide (0 ≤ t) && decide (t < 128), true), (decide (t ≥ 0), true)]) := by kernel_rfl
theorem rootE (dead : Nat → Value) (t p q x y : Int) : projS [4, 5, 6] [1, 2] (exec Tryz.prog S8 Zl 200 (.code (c1 (c1 (c2 (c1 (dropC 3 (bodyF Tryz.prog 136))))))) (Kst.st ⟨[(4, .v (.one (.ptr 1 0))), (5, .v (.one (.ptr 2 0))), (6, .v (.one (.int .i64 t)))], [(1, ⟨234, (0, 0), 0, [.int .u64 p, .int .u64 q]⟩), (2, ⟨234, (0, 0), 0, [.int .u64 x, .int .u64 y]⟩)], 3⟩ 51 dead [some true, some false])) = some (Ex.normal, [LV.v (V1.one (At.ptr 1 0)), LV.v (V1.one (At.ptr 2 0)), LV.v (V1.one (At.int IntKind.i64 (wr IntKind.i64 (t - 2))))], [some { ty := 234, fr := (0, 0), es := 0, cells := [At.int IntKind.u64 p, At.int IntKind.u64 q] }, some { ty := 234, fr := (0, 0), es := 0, cells := [At.int IntKind.u64 (wHi (wVal x y / pow2 (Int.toNat 1))), At.int IntKind.u64 (wLo (wVal x y / pow2 (Int.toNat 1)))] }], [(!decide (wVal p q < wVal (wHi ((wVal x y + wVal (wHi (wVal 0 1 * pow2 t.toNat % 340282366920938463463374607431768211456)) (wLo (wVal 0 1 * pow2 t.toNat % 340282366920938463463374607431768211456))) % 340282366920938463463374607431768211456)) (wLo ((wVal x y + wVal (wHi (wVal 0 1 * pow2 t.toNat % 340282366920938463463374607431768211456)) (wLo (wVal 0 1 * pow2 t.toNat % 340282366920938463463374607431768211456))) % 340282366920938463463374607431768211456))), false), (isU q, true), (isU (wLo ((wVal x y + wVal (wHi (wVal 0 1 * pow2 t.toNat % 340282366920938463463374607431768211456)) (wLo (wVal 0 1 * pow2 t.toNat % 340282366920938463463374607431768211456))) % 340282366920938463463374607431768211456)), true), (isU x, true), (isU y, true), (decide (0 ≤ 1) && decide (1 < 128), true), (isU x, true), (isU y, true), (isU (wHi (wVal 0 1 * pow2 t.toNat % 340282366920938463463374607431768211456)), true), (isU (wLo (wVal 0 1 * pow2 t.toNat % 340282366920938463463374607431768211456)), true), (isU 0, true), (isU 1, true), (decide (0 ≤ t) && decide (t < 128), true), (decide (t ≥ 0), true)]) := by kernel_rfl
theorem rootF (dead : Nat → Value) (p q x y : Int) : projS [2, 3] [] (exec Tryz.prog S8 Zl 200 (.code (c2 (dropC 3 (bodyF Tryz.prog 136)))) (Kst.st ⟨[(4, .v (.one (.ptr 1 0))), (5, .v (.one (.ptr 2 0)))], [(1, ⟨234, (0, 0), 0, [.int .u64 p, .int .u64 q]⟩), (2, ⟨234, (0, 0), 0, [.int .u64 x, .int .u64 y]⟩)], 3⟩ 51 dead [some true])) = some (Ex.ret, [LV.v (V1.one (At.int IntKind.i64 (if isI (sgn false (wVal (wHi ((wVal x y + wVal 0 1) % 340282366920938463463374607431768211456)) (wLo ((wVal x y + wVal 0 1) % 340282366920938463463374607431768211456)))) = true then sgn false (wVal (wHi ((wVal x y + wVal 0 1) % 340282366920938463463374607431768211456)) (wLo ((wVal x y + wVal 0 1) % 340282366920938463463374607431768211456))) else 0))), LV.v (V1.one (At.bool (isI (sgn false (wVal (wHi ((wVal x y + wVal 0 1) % 340282366920938463463374607431768211456)) (wLo ((wVal x y + wVal 0 1) % 340282366920938463463374607431768211456)))))))], [], [(isU (wHi ((wVal x y + wVal 0 1) % 340282366920938463463374607431768211456)), true), (isU (wLo ((wVal x y + wVal 0 1) % 340282366920938463463374607431768211456)), true), (isU x, true), (isU y, true), (isU 0, true), (isU 1, true), (decide (wVal x y < wVal p q), true), (isU y, true), (isU q, true)]) := by kernel_rfl
theorem rootG (dead : Nat → Value) (p q x y : Int) : projS [2, 3] [] (exec Tryz.prog S8 Zl 200 (.code (c2 (dropC 3 (bodyF Tryz.prog 136)))) (Kst.st ⟨[(4, .v (.one (.ptr 1 0))), (5, .v (.one (.ptr 2 0)))], [(1, ⟨234, (0, 0), 0, [.int .u64 p, .int .u64 q]⟩), (2, ⟨234, (0, 0), 0, [.int .u64 x, .int .u64 y]⟩)], 3⟩ 51 dead [some false])) = some (Ex.ret, [LV.v (V1.one (At.int IntKind.i64 (if isI (sgn false (wVal x y)) = true then sgn false (wVal x y) else 0))), LV.v (V1.one (At.bool (isI (sgn false (wVal x y)))))], [], [(isU x, true), (isU y, true), (decide (wVal x y < wVal p q), false), (isU y, true), (isU q, true)]) := by kernel_rfl
noncomputable def rootBody : Code := c2 (c1 (dropC 3 (bodyF Tryz.prog 136)))
abbrev P1 : LV := .v (.one (.ptr 1 0))
abbrev P2 : LV := .v (.one (.ptr 2 0))
def bigB (v : Int) : Blk := ⟨234, (0, 0), 0, [.int .u64 (wHi v), .int .u64 (wLo v)]⟩
def rtA (p r t : Int) : Kst := ⟨[(4, P1), (5, P2), (6, .v (.one (.int .i64 t)))], [(1, bigB p), (2, bigB r)], 3⟩
def rtB (p r : Int) : Kst := ⟨[(4, P1), (5, P2)], [(1, bigB p), (2, bigB r)], 3⟩
theorem rootStep (N : Int) (hN : N < 170141183460469231731687303715884105728) (m : Nat) (hm : m ≤ 63) (p r : Int) (h : RtInv N (m + 1) p r) :
    To Tryz.prog 51 (c1 (c1 rootBody)) (rtA p r (2 * (m : Int))) .normal (rtA (if p < r + pow2 (2 * m) then p else p - (r + pow2 (2 * m))) (if p < r + pow2 (2 * m) then r / 2 else r / 2 + pow2 (2 * m)) (2 * (m : Int) - 2)) := by
  obtain ⟨b0, b1, b2, b3⟩ := h.bd
  have ht : (2 * (m : Int)).toNat = 2 * m := by omega
  have hb0 := pow2_pos (2 * m)
  have hb1 : pow2 (2 * m) ≤ 85070591730234615865843651857942052864 := pow2_le (n := 126) _ (by omega) (by decide)
  have e0 : wVal 0 1 = 1 := rfl
  have e1 : pow2 (Int.toNat 1) = 2 := rfl
  have e2 : 1 * pow2 (2 * m) % 340282366920938463463374607431768211456 = pow2 (2 * m) := by rw [Int.one_mul]; omega
  have e3 : (r + pow2 (2 * m)) % 340282366920938463463374607431768211456 = r + pow2 (2 * m) := by omega
  have e5 : (r / 2 + pow2 (2 * m)) % 340282366920938463463374607431768211456 = r / 2 + pow2 (2 * m) := by omega
  have e6 : wr .i64 (2 * (m : Int) - 2) = 2 * (m : Int) - 2 := w64s (by omega) (by omega)
  by_cases hlt : p < r + pow2 (2 * m)
  · rw [if_pos hlt, if_pos hlt]
    refine To.run (z := Zl) sound8 (slots := [4, 5, 6]) (blks := [1, 2]) (vs := [P1, P2, .v (.one (.int .i64 (2 * (m : Int) - 2)))]) (bs := [bigB p, bigB (r / 2)]) (nbB := 3) (fun dead => rootE dead (2 * (m : Int)) (wHi p) (wLo p) (wHi r) (wLo r)) rfl (by rw [e6]) (by simp only [wVal_mk, e1]; rfl) ?_ (canB_ok (by rfl)) (Nat.le_refl _)
    · simp only [wVal_mk, e0, e1, ht, e2, e3, all_tt, all_ff, isU_iff, Bool.and_eq_true, decide_eq_true_eq]
      refine ⟨by simpa using hlt, ?_⟩
      repeat' apply And.intro
      all_goals first | exact ae_nil | (unfold wHi; omega) | (unfold wLo; omega) | omega
  · rw [if_neg hlt, if_neg hlt]
    have e4 : (p - (r + pow2 (2 * m))) % 340282366920938463463374607431768211456 = p - (r + pow2 (2 * m)) := by omega
    refine To.run (z := Zl) sound8 (slots := [4, 5, 6]) (blks := [1, 2]) (vs := [P1, P2, .v (.one (.int .i64 (2 * (m : Int) - 2)))]) (bs := [bigB (p - (r + pow2 (2 * m))), bigB (r / 2 + pow2 (2 * m))]) (nbB := 3) (fun dead => rootD dead (2 * (m : Int)) (wHi p) (wLo p) (wHi r) (wLo r)) rfl (by rw [e6]) (by simp only [wVal_mk, e0, e1, ht, e2, e3, e4, e5]; rfl) ?_ (canB_ok (by rfl)) (Nat.le_refl _)
    · simp only [wVal_mk, e0, e1, ht, e2, e3, e4, e5, all_tt, all_ff, isU_iff, Bool.and_eq_true, decide_eq_true_eq]
      repeat' apply And.intro
      all_goals first | exact ae_nil | (unfold wHi; omega) | (unfold wLo; omega) | omega | (simp; omega)
theorem rootEnd (p r : Int) : To Tryz.prog 51 (c1 (c1 rootBody)) (rtA p r (-2)) (.exit 0) (rtB p r) :=
  To.exec (z := Zl) sound8 (slots := [4, 5]) (blks := [1, 2]) (vs := [P1, P2]) (bs := [bigB p, bigB r]) (nbB := 3) (fun dead => rootC dead (-2) (wHi p) (wLo p) (wHi r) (wLo r)) (by simp) (canB_ok (by rfl)) (Nat.le_refl _)
theorem rootRd (N : Int) (hN : N < 170141183460469231731687303715884105728) : ∀ (m : Nat), m ≤ 64 → ∀ p r, RtInv N m p r → Rd Tryz.prog 51 (c1 (c1 rootBody)) (m + 1) (rtA p r (2 * (m : Int) - 2)) (.exit 0) (rtB (rtL m p r).1 (rtL m p r).2)
  | 0, _, p, r, h => Rd.last (by simp) (rootEnd p r)
  | m + 1, hm, p, r, h => by
    have hs := rootStep N hN m (by omega) p r h
    have e : 2 * ((m + 1 : Nat) : Int) - 2 = 2 * (m : Int) := by omega
    rw [e]
    refine Rd.next hs ?_
    simp only [rtL]
    by_cases hlt : p < r + pow2 (2 * m)
    · rw [if_pos hlt, if_pos hlt, decide_eq_true hlt]
      exact rootRd N hN m (by omega) _ _ (h.half hlt)
    · rw [if_neg hlt, if_neg hlt, decide_eq_false hlt]
      exact rootRd N hN m (by omega) _ _ (h.take hlt)
def rootS : List LV → Option (LV × List (Bool × Bool))
  | [.v (.agg [.int .i64 x, .int .u64 y])] =>
    match decide (x < 0) with
    | true => some (.tup [.one (.int .i64 0), .one (.bool false)], [])
    | false => some (.tup [.one (.int .i64 (if isI (rootW (wVal x y)) = true then rootW (wVal x y) else 0)), .one (.bool (isI (rootW (wVal x y))))], [(isI x, true), (isU y, true)])
  | _ => none
theorem sumRoot : SumOK Tryz.prog 136 (pureSum rootS) := by
  refine pureSum_ok fun args v cs hF hc w => ?_
  unfold rootS at hF
  split at hF
  · rename_i x y
    refine callOK_of (own_of sound8 Tryz.func136 (by kernel_rfl)) ?_
    split at hF
    · rename_i hx
      cases hF
      refine calls_pure (c := bodyF Tryz.prog 136) (e := .ret) (B := ⟨[(2, .v (.one (.int .i64 0))), (3, .v (.one (.bool false)))], [], 0⟩) Tryz.func136 (by kernel_rfl) (Nat.le_of_ble_eq_true (by kernel_rfl)) (Nat.le_of_ble_eq_true (by kernel_rfl)) rfl ?_ (.inr rfl) (fun dead => by kernel_rfl) rfl w
      exact To.exec (z := Zl) sound8 (slots := [2, 3]) (blks := []) (vs := [_, _]) (bs := []) (nbB := 0) (fun dead => rootA0 dead x y) (by simpa using hx) (canB_ok (by rfl)) (Nat.le_refl _)
    · rename_i hx
      cases hF
      simp only [all_tt, isU_iff, isI_iff] at hc
      obtain ⟨⟨hx0, hx1⟩, ⟨hy0, hy1⟩, -⟩ := hc
      have hx' : 0 ≤ x := by simpa using hx
      have hN0 : 0 ≤ wVal x y := by unfold wVal; omega
      have hN1 : wVal x y < 170141183460469231731687303715884105728 := by unfold wVal; omega
      have hux : wr .u64 x = x := u64_in hx' (by omega)
      have hhx : wHi (wVal x y) = x := hi_mk x y hy0 hy1
      have hhy : wLo (wVal x y) = y := lo_mk x y hy0 hy1
      generalize hN : wVal x y = N at *
      have hI := (RtInv.start hN0 (by omega)).run
      have hbd := hI.bd
      have hrd := rootRd N hN1 64 (by omega) N 0 (RtInv.start hN0 (by omega))
      refine calls_pure (c := bodyF Tryz.prog 136) (e := .ret) (B := ⟨[(2, .v (.one (.int .i64 (if isI (rootW N) = true then rootW N else 0)))), (3, .v (.one (.bool (isI (rootW N)))))], [], 3⟩) Tryz.func136 (by kernel_rfl) (Nat.le_of_ble_eq_true (by kernel_rfl)) (Nat.le_of_ble_eq_true (by kernel_rfl)) rfl ?_ (.inr rfl) (fun dead => by kernel_rfl) rfl w
      refine To.spineR (z := Zl) sound8 (k := 3) (slots := [4, 5]) (blks := [1, 2]) (vs := [P1, P2]) (bs := [bigB N, bigB 0]) (nbB := 3) (by kernel_rfl) (fun dead => rootA dead x y) rfl rfl (by rw [hux]; unfold bigB; rw [hhx, hhy]; rfl) (by simpa using hx) (canB_ok (by rfl)) (Nat.zero_le _) ?_
      · refine To.seq (by kernel_rfl) (To.seq (by kernel_rfl) (To.exec (z := Zl) sound8 (slots := [4, 5, 6]) (blks := [1, 2]) (vs := [P1, P2, .v (.one (.int .i64 126))]) (bs := [bigB N, bigB 0]) (nbB := 3) (fun dead => rootB dead (wHi N) (wLo N) (wHi 0) (wLo 0)) (by simp) (canB_ok (by rfl)) (Nat.le_refl _))
          (To.block (id := 0) (by kernel_rfl) (To.loop (by kernel_rfl) hrd) (.inl rfl))) ?_
        -- the end
        unfold rootW
        generalize rtL 64 N 0 = q at *
        obtain ⟨p, r⟩ := q
        simp only at hbd ⊢
        obtain ⟨b0, b1, b2, b3⟩ := hbd
        have e0 : wVal 0 1 = 1 := rfl
        by_cases hlt : r < p
        · rw [if_pos hlt]
          have e1 : (r + 1) % 340282366920938463463374607431768211456 = r + 1 := by omega
          refine To.run (z := Zl) sound8 (slots := [2, 3]) (blks := []) (vs := [.v (.one (.int .i64 (if isI (r + 1) = true then r + 1 else 0))), .v (.one (.bool (isI (r + 1))))]) (bs := []) (nbB := 3) (fun dead => rootF dead (wHi p) (wLo p) (wHi r) (wLo r)) rfl (by simp only [wVal_mk, e0, e1]; rfl) rfl ?_ (canB_ok (by rfl)) (Nat.le_refl _)
          · simp only [wVal_mk, e0, e1, all_tt, all_ff, isU_iff, decide_eq_true_eq]
            repeat' apply And.intro
            all_goals first | exact ae_nil | (unfold wHi; omega) | (unfold wLo; omega) | omega
        · rw [if_neg hlt]
          refine To.run (z := Zl) sound8 (slots := [2, 3]) (blks := []) (vs := [.v (.one (.int .i64 (if isI r = true then r else 0))), .v (.one (.bool (isI r)))]) (bs := []) (nbB := 3) (fun dead => rootG dead (wHi p) (wLo p) (wHi r) (wLo r)) rfl (by simp only [wVal_mk]; rfl) rfl ?_ (canB_ok (by rfl)) (Nat.le_refl _)
          · simp only [wVal_mk, all_tt, all_ff, isU_iff, decide_eq_false_iff_not]
            repeat' apply And.intro
            all_goals first | exact ae_nil | (unfold wHi; omega) | (unfold wLo; omega) | omega
  · cases hF
end Go.Proofs.YthbkhoknlbomgaaGreat

/- math/bits.Div64: its pieces' runs (printed). -/
namespace Go.Proofs.YthbkhoknlbomgaaGreat
open Go.Lr
set_option linter.unusedVariables false
def U (n : Int) : LV := .v (.one (.int .u64 n))
theorem dvA (dead : Nat → Value) (h l y : Int) : projS [2, 8, 9, 10, 11, 13, 14, 15, 16] [] (execL Tryz.prog S8 Zl 200 (spineL 14 (bodyF Tryz.prog 180)) (Kst.st ⟨argsL 0 [.v (.one (.int .u64 h)), .v (.one (.int .u64 l)), .v (.one (.int .u64 y))], [], 0⟩ 135 dead [some false, some false, some false])) = some (Ex.normal, [LV.v (V1.one (At.int IntKind.u64 (wr IntKind.u64 (y * pow2 (min (wr IntKind.u64 (lzV y)).toNat IntKind.u64.bits))))), LV.v (V1.one (At.int IntKind.u64 (wr IntKind.u64 (lzV y)))), LV.v (V1.one (At.int IntKind.u64 (wr IntKind.u64 (y * pow2 (min (wr IntKind.u64 (lzV y)).toNat IntKind.u64.bits)) / pow2 (min (Int.toNat 32) IntKind.u64.bits)))), LV.v (V1.one (At.int IntKind.u64 (Int.ofNat ((u64 (wr IntKind.u64 (y * pow2 (min (wr IntKind.u64 (lzV y)).toNat IntKind.u64.bits)))).toNat.land (u64 4294967295).toNat)))), LV.v (V1.one (At.int IntKind.u64 (Int.ofNat ((u64 (wr IntKind.u64 (h * pow2 (min (wr IntKind.u64 (lzV y)).toNat IntKind.u64.bits)))).toNat.lor (u64 (l / pow2 (min (wr IntKind.u64 (64 - wr IntKind.u64 (lzV y))).toNat IntKind.u64.bits))).toNat)))), LV.v (V1.one (At.int IntKind.u64 (wr IntKind.u64 (l * pow2 (min (wr IntKind.u64 (lzV y)).toNat IntKind.u64.bits)) / pow2 (min (Int.toNat 32) IntKind.u64.bits)))), LV.v (V1.one (At.int IntKind.u64 (Int.ofNat ((u64 (wr IntKind.u64 (l * pow2 (min (wr IntKind.u64 (lzV y)).toNat IntKind.u64.bits)))).toNat.land (u64 4294967295).toNat)))), LV.v (V1.one (At.int IntKind.u64 (wr IntKind.u64 ((Int.ofNat ((u64 (wr IntKind.u64 (h * pow2 (min (wr IntKind.u64 (lzV y)).toNat IntKind.u64.bits)))).toNat.lor (u64 (l / pow2 (min (wr IntKind.u64 (64 - wr IntKind.u64 (lzV y))).toNat IntKind.u64.bits))).toNat)).tdiv (wr IntKind.u64 (y * pow2 (min (wr IntKind.u64 (lzV y)).toNat IntKind.u64.bits)) / pow2 (min (Int.toNat 32) IntKind.u64.bits)))))), LV.v (V1.one (At.int IntKind.u64 (wr IntKind.u64 (Int.ofNat ((u64 (wr IntKind.u64 (h * pow2 (min (wr IntKind.u64 (lzV y)).toNat IntKind.u64.bits)))).toNat.lor (u64 (l / pow2 (min (wr IntKind.u64 (64 - wr IntKind.u64 (lzV y))).toNat IntKind.u64.bits))).toNat) - wr IntKind.u64 (wr IntKind.u64 ((Int.ofNat ((u64 (wr IntKind.u64 (h * pow2 (min (wr IntKind.u64 (lzV y)).toNat IntKind.u64.bits)))).toNat.lor (u64 (l / pow2 (min (wr IntKind.u64 (64 - wr IntKind.u64 (lzV y))).toNat IntKind.u64.bits))).toNat)).tdiv (wr IntKind.u64 (y * pow2 (min (wr IntKind.u64 (lzV y)).toNat IntKind.u64.bits)) / pow2 (min (Int.toNat 32) IntKind.u64.bits))) * (wr IntKind.u64 (y * pow2 (min (wr IntKind.u64 (lzV y)).toNat IntKind.u64.bits)) / pow2 (min (Int.toNat 32) IntKind.u64.bits)))))))], [], [(decide (wr IntKind.u64 (y * pow2 (min (wr IntKind.u64 (lzV y)).toNat IntKind.u64.bits)) / pow2 (min (Int.toNat 32) IntKind.u64.bits) = 0), false), (decide (wr IntKind.u64 (lzV y) < 0), false), (decide (wr IntKind.u64 (64 - wr IntKind.u64 (lzV y)) < 0), false), (decide (wr IntKind.u64 (lzV y) < 0), false), (decide (wr IntKind.u64 (lzV y) < 0), false), (isU y, true), (decide (0 < y), true), (h == 0, false), (decide (y ≤ h), false), (y == 0, false)]) := by kernel_rfl
theorem dvZ (dead : Nat → Value) (h l y : Int) : projS [6, 7] [] (exec Tryz.prog S8 Zl 200 (.code (bodyF Tryz.prog 180)) (Kst.st ⟨argsL 0 [.v (.one (.int .u64 h)), .v (.one (.int .u64 l)), .v (.one (.int .u64 y))], [], 0⟩ 135 dead [some false, some false, some true])) = some (Ex.ret, [LV.v (V1.one (At.int IntKind.u64 (wr IntKind.u64 (l.tdiv y)))), LV.v (V1.one (At.int IntKind.u64 (l.tmod y)))], [], [(decide (y = 0), false), (decide (y = 0), false), (h == 0, true), (decide (y ≤ h), false), (y == 0, false)]) := by kernel_rfl
theorem dvM (dead : Nat → Value) (y s n1 n0 u32 u1 u0 q r : Int) : projS [2, 8, 9, 10, 14, 15, 17, 18, 16] [] (execL Tryz.prog S8 Zl 200 (spineL 3 (c2 (dropC 14 (bodyF Tryz.prog 180)))) (Kst.st ⟨[(2, U y), (8, U s), (9, U n1), (10, U n0), (11, U u32), (13, U u1), (14, U u0), (15, U q), (16, U r)], [], 0⟩ 135 dead [])) = some (Ex.normal, [LV.v (V1.one (At.int IntKind.u64 y)), LV.v (V1.one (At.int IntKind.u64 s)), LV.v (V1.one (At.int IntKind.u64 n1)), LV.v (V1.one (At.int IntKind.u64 n0)), LV.v (V1.one (At.int IntKind.u64 u0)), LV.v (V1.one (At.int IntKind.u64 q)), LV.v (V1.one (At.int IntKind.u64 (wr IntKind.u64 (wr IntKind.u64 (wr IntKind.u64 (u32 * 4294967296) + u1) - wr IntKind.u64 (q * y))))), LV.v (V1.one (At.int IntKind.u64 (wr IntKind.u64 ((wr IntKind.u64 (wr IntKind.u64 (wr IntKind.u64 (u32 * 4294967296) + u1) - wr IntKind.u64 (q * y))).tdiv n1)))), LV.v (V1.one (At.int IntKind.u64 (wr IntKind.u64 (wr IntKind.u64 (wr IntKind.u64 (wr IntKind.u64 (u32 * 4294967296) + u1) - wr IntKind.u64 (q * y)) - wr IntKind.u64 (wr IntKind.u64 ((wr IntKind.u64 (wr IntKind.u64 (wr IntKind.u64 (u32 * 4294967296) + u1) - wr IntKind.u64 (q * y))).tdiv n1) * n1)))))], [], [(decide (n1 = 0), false)]) := by kernel_rfl
theorem dvE (dead : Nat → Value) (y s n1 n0 u0 q1 u21 q r : Int) : projS [6, 7] [] (exec Tryz.prog S8 Zl 200 (.code (c2 (dropC 18 (bodyF Tryz.prog 180)))) (Kst.st ⟨[(2, U y), (8, U s), (9, U n1), (10, U n0), (14, U u0), (15, U q1), (17, U u21), (18, U q), (16, U r)], [], 0⟩ 135 dead [])) = some (Ex.ret, [LV.v (V1.one (At.int IntKind.u64 (wr IntKind.u64 (wr IntKind.u64 (q1 * 4294967296) + q)))), LV.v (V1.one (At.int IntKind.u64 (wr IntKind.u64 (wr IntKind.u64 (wr IntKind.u64 (u21 * 4294967296) + u0) - wr IntKind.u64 (q * y)) / pow2 (min s.toNat IntKind.u64.bits))))], [], [(decide (s < 0), false)]) := by kernel_rfl
theorem dvL1 (dead : Nat → Value) (y s n1 n0 u32 u1 u0 q r : Int) : projS [2, 8, 9, 10, 11, 13, 14, 15, 16] [] (exec Tryz.prog S8 Zl 200 (.code (c1 (c1 (c1 (dropC 14 (bodyF Tryz.prog 180)))))) (Kst.st ⟨[(2, U y), (8, U s), (9, U n1), (10, U n0), (11, U u32), (13, U u1), (14, U u0), (15, U q), (16, U r)], [], 0⟩ 135 dead [some true, some true, some true, some true, some true, some true, some true, some true, some true, none, some true])) = some (Ex.exit 0, [LV.v (V1.one (At.int IntKind.u64 y)), LV.v (V1.one (At.int IntKind.u64 s)), LV.v (V1.one (At.int IntKind.u64 n1)), LV.v (V1.one (At.int IntKind.u64 n0)), LV.v (V1.one (At.int IntKind.u64 u32)), LV.v (V1.one (At.int IntKind.u64 u1)), LV.v (V1.one (At.int IntKind.u64 u0)), LV.v (V1.one (At.int IntKind.u64 (wr IntKind.u64 (q - 1)))), LV.v (V1.one (At.int IntKind.u64 (wr IntKind.u64 (r + n1))))], [], [(decide (wr IntKind.u64 (r + n1) ≥ 4294967296), true), (decide (q ≥ 4294967296), true), (decide (q ≥ 4294967296), true), (decide (q ≥ 4294967296), true), (decide (q ≥ 4294967296), true), (decide (q ≥ 4294967296), true), (decide (q ≥ 4294967296), true), (decide (q ≥ 4294967296), true), (decide (q ≥ 4294967296), true), (decide (q ≥ 4294967296), true)]) := by kernel_rfl
theorem dvL2 (dead : Nat → Value) (y s n1 n0 u32 u1 u0 q r : Int) : projS [2, 8, 9, 10, 11, 13, 14, 15, 16] [] (exec Tryz.prog S8 Zl 200 (.code (c1 (c1 (c1 (dropC 14 (bodyF Tryz.prog 180)))))) (Kst.st ⟨[(2, U y), (8, U s), (9, U n1), (10, U n0), (11, U u32), (13, U u1), (14, U u0), (15, U q), (16, U r)], [], 0⟩ 135 dead [some true, some true, some true, some true, some true, some true, some true, some true, some true, none, some false])) = some (Ex.normal, [LV.v (V1.one (At.int IntKind.u64 y)), LV.v (V1.one (At.int IntKind.u64 s)), LV.v (V1.one (At.int IntKind.u64 n1)), LV.v (V1.one (At.int IntKind.u64 n0)), LV.v (V1.one (At.int IntKind.u64 u32)), LV.v (V1.one (At.int IntKind.u64 u1)), LV.v (V1.one (At.int IntKind.u64 u0)), LV.v (V1.one (At.int IntKind.u64 (wr IntKind.u64 (q - 1)))), LV.v (V1.one (At.int IntKind.u64 (wr IntKind.u64 (r + n1))))], [], [(decide (wr IntKind.u64 (r + n1) ≥ 4294967296), false), (decide (q ≥ 4294967296), true), (decide (q ≥ 4294967296), true), (decide (q ≥ 4294967296), true), (decide (q ≥ 4294967296), true), (decide (q ≥ 4294967296), true), (decide (q ≥ 4294967296), true), (decide (q ≥ 4294967296), true), (decide (q ≥ 4294967296), true), (decide (q ≥ 4294967296), true)]) := by kernel_rfl
theorem dvL3 (dead : Nat → Value) (y s n1 n0 u32 u1 u0 q r : Int) : projS [2, 8, 9, 10, 11, 13, 14, 15, 16] [] (exec Tryz.prog S8 Zl 200 (.code (c1 (c1 (c1 (dropC 14 (bodyF Tryz.prog 180)))))) (Kst.st ⟨[(2, U y), (8, U s), (9, U n1), (10, U n0), (11, U u32), (13, U u1), (14, U u0), (15, U q), (16, U r)], [], 0⟩ 135 dead [some false, some false, some false, some false, some false, some false, some false, some false, some false, some true, some true])) = some (Ex.exit 0, [LV.v (V1.one (At.int IntKind.u64 y)), LV.v (V1.one (At.int IntKind.u64 s)), LV.v (V1.one (At.int IntKind.u64 n1)), LV.v (V1.one (At.int IntKind.u64 n0)), LV.v (V1.one (At.int IntKind.u64 u32)), LV.v (V1.one (At.int IntKind.u64 u1)), LV.v (V1.one (At.int IntKind.u64 u0)), LV.v (V1.one (At.int IntKind.u64 (wr IntKind.u64 (q - 1)))), LV.v (V1.one (At.int IntKind.u64 (wr IntKind.u64 (r + n1))))], [], [(decide (wr IntKind.u64 (r + n1) ≥ 4294967296), true), (decide (wr IntKind.u64 (q * n0) > wr IntKind.u64 (wr IntKind.u64 (4294967296 * r) + u1)), true), (decide (q ≥ 4294967296), false), (decide (q ≥ 4294967296), false), (decide (q ≥ 4294967296), false), (decide (q ≥ 4294967296), false), (decide (q ≥ 4294967296), false), (decide (q ≥ 4294967296), false), (decide (q ≥ 4294967296), false), (decide (q ≥ 4294967296), false), (decide (q ≥ 4294967296), false)]) := by kernel_rfl
theorem dvL4 (dead : Nat → Value) (y s n1 n0 u32 u1 u0 q r : Int) : projS [2, 8, 9, 10, 11, 13, 14, 15, 16] [] (exec Tryz.prog S8 Zl 200 (.code (c1 (c1 (c1 (dropC 14 (bodyF Tryz.prog 180)))))) (Kst.st ⟨[(2, U y), (8, U s), (9, U n1), (10, U n0), (11, U u32), (13, U u1), (14, U u0), (15, U q), (16, U r)], [], 0⟩ 135 dead [some false, some false, some false, some false, some false, some false, some false, some false, some false, some true, some false])) = some (Ex.normal, [LV.v (V1.one (At.int IntKind.u64 y)), LV.v (V1.one (At.int IntKind.u64 s)), LV.v (V1.one (At.int IntKind.u64 n1)), LV.v (V1.one (At.int IntKind.u64 n0)), LV.v (V1.one (At.int IntKind.u64 u32)), LV.v (V1.one (At.int IntKind.u64 u1)), LV.v (V1.one (At.int IntKind.u64 u0)), LV.v (V1.one (At.int IntKind.u64 (wr IntKind.u64 (q - 1)))), LV.v (V1.one (At.int IntKind.u64 (wr IntKind.u64 (r + n1))))], [], [(decide (wr IntKind.u64 (r + n1) ≥ 4294967296), false), (decide (wr IntKind.u64 (q * n0) > wr IntKind.u64 (wr IntKind.u64 (4294967296 * r) + u1)), true), (decide (q ≥ 4294967296), false), (decide (q ≥ 4294967296), false), (decide (q ≥ 4294967296), false), (decide (q ≥ 4294967296), false), (decide (q ≥ 4294967296), false), (decide (q ≥ 4294967296), false), (decide (q ≥ 4294967296), false), (decide (q ≥ 4294967296), false), (decide (q ≥ 4294967296), false)]) := by kernel_rfl
theorem dvL5 (dead : Nat → Value) (y s n1 n0 u32 u1 u0 q r : Int) : projS [2, 8, 9, 10, 11, 13, 14, 15, 16] [] (exec Tryz.prog S8 Zl 200 (.code (c1 (c1 (c1 (dropC 14 (bodyF Tryz.prog 180)))))) (Kst.st ⟨[(2, U y), (8, U s), (9, U n1), (10, U n0), (11, U u32), (13, U u1), (14, U u0), (15, U q), (16, U r)], [], 0⟩ 135 dead [some false, some false, some false, some false, some false, some false, some false, some false, some false, some false])) = some (Ex.exit 0, [LV.v (V1.one (At.int IntKind.u64 y)), LV.v (V1.one (At.int IntKind.u64 s)), LV.v (V1.one (At.int IntKind.u64 n1)), LV.v (V1.one (At.int IntKind.u64 n0)), LV.v (V1.one (At.int IntKind.u64 u32)), LV.v (V1.one (At.int IntKind.u64 u1)), LV.v (V1.one (At.int IntKind.u64 u0)), LV.v (V1.one (At.int IntKind.u64 q)), LV.v (V1.one (At.int IntKind.u64 r))], [], [(decide (wr IntKind.u64 (q * n0) > wr IntKind.u64 (wr IntKind.u64 (4294967296 * r) + u1)), false), (decide (q ≥ 4294967296), false), (decide (q ≥ 4294967296), false), (decide (q ≥ 4294967296), false), (decide (q ≥ 4294967296), false), (decide (q ≥ 4294967296), false), (decide (q ≥ 4294967296), false), (decide (q ≥ 4294967296), false), (decide (q ≥ 4294967296), false), (decide (q ≥ 4294967296), false)]) := by kernel_rfl
theorem dvN1 (dead : Nat → Value) (y s n1 n0 u0 q1 u21 q r : Int) : projS [2, 8, 9, 10, 14, 15, 17, 18, 16] [] (exec Tryz.prog S8 Zl 200 (.code (c1 (c1 (c1 (dropC 18 (bodyF Tryz.prog 180)))))) (Kst.st ⟨[(2, U y), (8, U s), (9, U n1), (10, U n0), (14, U u0), (15, U q1), (17, U u21), (18, U q), (16, U r)], [], 0⟩ 135 dead [some true, some true, some true, some true, some true, some true, some true, some true, some true, none, some true])) = some (Ex.exit 2, [LV.v (V1.one (At.int IntKind.u64 y)), LV.v (V1.one (At.int IntKind.u64 s)), LV.v (V1.one (At.int IntKind.u64 n1)), LV.v (V1.one (At.int IntKind.u64 n0)), LV.v (V1.one (At.int IntKind.u64 u0)), LV.v (V1.one (At.int IntKind.u64 q1)), LV.v (V1.one (At.int IntKind.u64 u21)), LV.v (V1.one (At.int IntKind.u64 (wr IntKind.u64 (q - 1)))), LV.v (V1.one (At.int IntKind.u64 (wr IntKind.u64 (r + n1))))], [], [(decide (wr IntKind.u64 (r + n1) ≥ 4294967296), true), (decide (q ≥ 4294967296), true), (decide (q ≥ 4294967296), true), (decide (q ≥ 4294967296), true), (decide (q ≥ 4294967296), true), (decide (q ≥ 4294967296), true), (decide (q ≥ 4294967296), true), (decide (q ≥ 4294967296), true), (decide (q ≥ 4294967296), true), (decide (q ≥ 4294967296), true)]) := by kernel_rfl
theorem dvN2 (dead : Nat → Value) (y s n1 n0 u0 q1 u21 q r : Int) : projS [2, 8, 9, 10, 14, 15, 17, 18, 16] [] (exec Tryz.prog S8 Zl 200 (.code (c1 (c1 (c1 (dropC 18 (bodyF Tryz.prog 180)))))) (Kst.st ⟨[(2, U y), (8, U s), (9, U n1), (10, U n0), (14, U u0), (15, U q1), (17, U u21), (18, U q), (16, U r)], [], 0⟩ 135 dead [some true, some true, some true, some true, some true, some true, some true, some true, some true, none, some false])) = some (Ex.normal, [LV.v (V1.one (At.int IntKind.u64 y)), LV.v (V1.one (At.int IntKind.u64 s)), LV.v (V1.one (At.int IntKind.u64 n1)), LV.v (V1.one (At.int IntKind.u64 n0)), LV.v (V1.one (At.int IntKind.u64 u0)), LV.v (V1.one (At.int IntKind.u64 q1)), LV.v (V1.one (At.int IntKind.u64 u21)), LV.v (V1.one (At.int IntKind.u64 (wr IntKind.u64 (q - 1)))), LV.v (V1.one (At.int IntKind.u64 (wr IntKind.u64 (r + n1))))], [], [(decide (wr IntKind.u64 (r + n1) ≥ 4294967296), false), (decide (q ≥ 4294967296), true), (decide (q ≥ 4294967296), true), (decide (q ≥ 4294967296), true), (decide (q ≥ 4294967296), true), (decide (q ≥ 4294967296), true), (decide (q ≥ 4294967296), true), (decide (q ≥ 4294967296), true), (decide (q ≥ 4294967296), true), (decide (q ≥ 4294967296), true)]) := by kernel_rfl
theorem dvN3 (dead : Nat → Value) (y s n1 n0 u0 q1 u21 q r : Int) : projS [2, 8, 9, 10, 14, 15, 17, 18, 16] [] (exec Tryz.prog S8 Zl 200 (.code (c1 (c1 (c1 (dropC 18 (bodyF Tryz.prog 180)))))) (Kst.st ⟨[(2, U y), (8, U s), (9, U n1), (10, U n0), (14, U u0), (15, U q1), (17, U u21), (18, U q), (16, U r)], [], 0⟩ 135 dead [some false, some false, some false, some false, some false, some false, some false, some false, some false, some true, some true])) = some (Ex.exit 2, [LV.v (V1.one (At.int IntKind.u64 y)), LV.v (V1.one (At.int IntKind.u64 s)), LV.v (V1.one (At.int IntKind.u64 n1)), LV.v (V1.one (At.int IntKind.u64 n0)), LV.v (V1.one (At.int IntKind.u64 u0)), LV.v (V1.one (At.int IntKind.u64 q1)), LV.v (V1.one (At.int IntKind.u64 u21)), LV.v (V1.one (At.int IntKind.u64 (wr IntKind.u64 (q - 1)))), LV.v (V1.one (At.int IntKind.u64 (wr IntKind.u64 (r + n1))))], [], [(decide (wr IntKind.u64 (r + n1) ≥ 4294967296), true), (decide (wr IntKind.u64 (q * n0) > wr IntKind.u64 (wr IntKind.u64 (4294967296 * r) + u0)), true), (decide (q ≥ 4294967296), false), (decide (q ≥ 4294967296), false), (decide (q ≥ 4294967296), false), (decide (q ≥ 4294967296), false), (decide (q ≥ 4294967296), false), (decide (q ≥ 4294967296), false), (decide (q ≥ 4294967296), false), (decide (q ≥ 4294967296), false), (decide (q ≥ 4294967296), false)]) := by kernel_rfl
theorem dvN4 (dead : Nat → Value) (y s n1 n0 u0 q1 u21 q r : Int) : projS [2, 8, 9, 10, 14, 15, 17, 18, 16] [] (exec Tryz.prog S8 Zl 200 (.code (c1 (c1 (c1 (dropC 18 (bodyF Tryz.prog 180)))))) (Kst.st ⟨[(2, U y), (8, U s), (9, U n1), (10, U n0), (14, U u0), (15, U q1), (17, U u21), (18, U q), (16, U r)], [], 0⟩ 135 dead [some false, some false, some false, some false, some false, some false, some false, some false, some false, some true, some false])) = some (Ex.normal, [LV.v (V1.one (At.int IntKind.u64 y)), LV.v (V1.one (At.int IntKind.u64 s)), LV.v (V1.one (At.int IntKind.u64 n1)), LV.v (V1.one (At.int IntKind.u64 n0)), LV.v (V1.one (At.int IntKind.u64 u0)), LV.v (V1.one (At.int IntKind.u64 q1)), LV.v (V1.one (At.int IntKind.u64 u21)), LV.v (V1.one (At.int IntKind.u64 (wr IntKind.u64 (q - 1)))), LV.v (V1.one (At.int IntKind.u64 (wr IntKind.u64 (r + n1))))], [], [(decide (wr IntKind.u64 (r + n1) ≥ 4294967296), false), (decide (wr IntKind.u64 (q * n0) > wr IntKind.u64 (wr IntKind.u64 (4294967296 * r) + u0)), true), (decide (q ≥ 4294967296), false), (decide (q ≥ 4294967296), false), (decide (q ≥ 4294967296), false), (decide (q ≥ 4294967296), false), (decide (q ≥ 4294967296), false), (decide (q ≥ 4294967296), false), (decide (q ≥ 4294967296), false), (decide (q ≥ 4294967296), false), (decide (q ≥ 4294967296), false)]) := by kernel_rfl
theorem dvN5 (dead : Nat → Value) (y s n1 n0 u0 q1 u21 q r : Int) : projS [2, 8, 9, 10, 14, 15, 17, 18, 16] [] (exec Tryz.prog S8 Zl 200 (.code (c1 (c1 (c1 (dropC 18 (bodyF Tryz.prog 180)))))) (Kst.st ⟨[(2, U y), (8, U s), (9, U n1), (10, U n0), (14, U u0), (15, U q1), (17, U u21), (18, U q), (16, U r)], [], 0⟩ 135 dead [some false, some false, some false, some false, some false, some false, some false, some false, some false, some false])) = some (Ex.exit 2, [LV.v (V1.one (At.int IntKind.u64 y)), LV.v (V1.one (At.int IntKind.u64 s)), LV.v (V1.one (At.int IntKind.u64 n1)), LV.v (V1.one (At.int IntKind.u64 n0)), LV.v (V1.one (At.int IntKind.u64 u0)), LV.v (V1.one (At.int IntKind.u64 q1)), LV.v (V1.one (At.int IntKind.u64 u21)), LV.v (V1.one (At.int IntKind.u64 q)), LV.v (V1.one (At.int IntKind.u64 r))], [], [(decide (wr IntKind.u64 (q * n0) > wr IntKind.u64 (wr IntKind.u64 (4294967296 * r) + u0)), false), (decide (q ≥ 4294967296), false), (decide (q ≥ 4294967296), false), (decide (q ≥ 4294967296), false), (decide (q ≥ 4294967296), false), (decide (q ≥ 4294967296), false), (decide (q ≥ 4294967296), false), (decide (q ≥ 4294967296), false), (decide (q ≥ 4294967296), false), (decide (q ≥ 4294967296), false)]) := by kernel_rfl
end Go.Proofs.YthbkhoknlbomgaaGreat

/- Long division by two digits: why the digits are right. Plain. -/
namespace Go.Lr
set_option linter.unusedVariables false
structure Dg (y n1 n0 u u1 : Int) : Prop where
  yd : y = n1 * 4294967296 + n0
  n1a : 2147483648 ≤ n1
  n1b : n1 < 4294967296
  n0a : 0 ≤ n0
  n0b : n0 < 4294967296
  ua : 0 ≤ u
  ub : u < y
  u1a : 0 ≤ u1
  u1b : u1 < 4294967296
variable {y n1 n0 u u1 : Int}
theorem Dg.ypos (h : Dg y n1 n0 u u1) : 0 < y := by have := h.yd; have := h.n1a; have := h.n0a; omega
theorem Dg.nn (h : Dg y n1 n0 u u1) : 0 ≤ (u * 4294967296 + u1) / y := Int.ediv_nonneg (by have := h.ua; have := h.u1a; omega) (by have := h.ypos; omega)
theorem Dg.lt (h : Dg y n1 n0 u u1) : (u * 4294967296 + u1) / y < 4294967296 := by
  refine Int.ediv_lt_of_lt_mul h.ypos ?_
  have := h.ub; have := h.u1b; have := h.ypos; omega
theorem Dg.iff (h : Dg y n1 n0 u u1) {q r : Int} (hq : q * n1 + r = u) : q * n0 > 4294967296 * r + u1 ↔ (u * 4294967296 + u1) / y < q := by
  rw [Int.ediv_lt_iff_lt_mul h.ypos, h.yd]
  have e1 : q * (n1 * 4294967296 + n0) = q * n1 * 4294967296 + q * n0 := by grind
  rw [e1, ← hq]
  generalize q * n1 = a
  generalize q * n0 = b
  omega
theorem Dg.brk (h : Dg y n1 n0 u u1) {q r : Int} (hq : q * n1 + r = u) (hlt : (u * 4294967296 + u1) / y < q) (hb : r + n1 ≥ 4294967296) : q - 1 = (u * 4294967296 + u1) / y := by
  have h0 := h.nn
  have hq' : (q - 1) * n1 + (r + n1) = u := by rw [← hq]; grind
  have hi := h.iff hq'
  have e1 : (q - 1) * n1 < 4294967296 * n1 := by have := h.ub; have := h.yd; have := h.n0b; omega
  have e2 : q - 1 < 4294967296 := Int.lt_of_mul_lt_mul_right e1 (by have := h.n1a; omega)
  have e3 : (q - 1) * n0 ≤ 4294967295 * 4294967295 := Int.mul_le_mul (by omega) (by have := h.n0b; omega) h.n0a (by omega)
  have hu := h.u1a
  have : ¬ (u * 4294967296 + u1) / y < q - 1 := by rw [← hi]; omega
  omega
theorem div_digits {V p y0 y u32 u1 u0 : Int} (hp : 0 < p) (hy0 : 0 < y0) (hy : y = y0 * p) (hV : V * p = (u32 * 4294967296 + u1) * 4294967296 + u0) :
    (u32 * 4294967296 + u1) / y * 4294967296 + ((u32 * 4294967296 + u1) % y * 4294967296 + u0) / y = V / y0 ∧ ((u32 * 4294967296 + u1) % y * 4294967296 + u0) % y / p = V % y0 := by
  have hyp : 0 < y := by rw [hy]; exact Int.mul_pos hy0 hp
  have e1 := Int.emod_add_mul_ediv (u32 * 4294967296 + u1) y
  generalize (u32 * 4294967296 + u1) / y = q1 at *
  generalize (u32 * 4294967296 + u1) % y = r1 at *
  have e2 := Int.emod_add_mul_ediv (r1 * 4294967296 + u0) y
  have m0 := Int.emod_nonneg (r1 * 4294967296 + u0) (show y ≠ 0 by omega)
  have m1 := Int.emod_lt_of_pos (r1 * 4294967296 + u0) hyp
  generalize (r1 * 4294967296 + u0) / y = q0 at *
  generalize (r1 * 4294967296 + u0) % y = r0 at *
  have e3 : V * p = (q1 * 4294967296 + q0) * y + r0 := by rw [hV, ← e1]; grind
  -- what is left is a multiple of p
  have e4 : r0 = (V - (q1 * 4294967296 + q0) * y0) * p := by rw [hy] at e3; grind
  generalize q1 * 4294967296 + q0 = Q at *
  have d0 : 0 ≤ V - Q * y0 := by
    rw [e4] at m0
    exact Int.nonneg_of_mul_nonneg_left m0 hp
  have d1 : V - Q * y0 < y0 := by
    rw [e4, hy] at m1
    exact Int.lt_of_mul_lt_mul_right m1 (by omega)
  have e5 : V = Q * y0 + (V - Q * y0) := by omega
  refine ⟨(ediv_unique e5 d0 d1).symm, ?_⟩
  rw [e4, Int.mul_ediv_cancel _ (by omega)]
  exact (emod_unique e5 d0 d1).symm
end Go.Lr

/- math/bits.Div64: what it comes to. -/
namespace Go.Proofs.YthbkhoknlbomgaaGreat
open Go.Lr
set_option linter.unusedVariables false
set_option linter.unusedSimpArgs false
noncomputable def dvBody1 : Code := c1 (c1 (c1 (dropC 14 (bodyF Tryz.prog 180))))
noncomputable def dvBody2 : Code := c1 (c1 (c1 (dropC 18 (bodyF Tryz.prog 180))))
def dvS1 (y s n1 n0 u32 u1 u0 q r : Int) : Kst := ⟨[(2, U y), (8, U s), (9, U n1), (10, U n0), (11, U u32), (13, U u1), (14, U u0), (15, U q), (16, U r)], [], 0⟩
def dvS2 (y s n1 n0 u0 q1 u21 q r : Int) : Kst := ⟨[(2, U y), (8, U s), (9, U n1), (10, U n0), (14, U u0), (15, U q1), (17, U u21), (18, U q), (16, U r)], [], 0⟩
theorem dvRd1 {y s n1 n0 u32 u1 u0 : Int} (h : Dg y n1 n0 u32 u1) : ∀ (d : Nat) (q r : Int), q * n1 + r = u32 → 0 ≤ r → r < 4294967296 → q ≤ 8589934592 → q = (u32 * 4294967296 + u1) / y + d →
    ∃ m r', Rd Tryz.prog 135 dvBody1 m (dvS1 y s n1 n0 u32 u1 u0 q r) (.exit 0) (dvS1 y s n1 n0 u32 u1 u0 ((u32 * 4294967296 + u1) / y) r')
  | 0, q, r, hq, hr0, hr1, hq1, hd => by
    have n0a := h.n0a
    have n0b := h.n0b
    have u1a := h.u1a
    have u1b := h.u1b
    have nn := h.nn
    have lt := h.lt
    have hi := h.iff hq
    have hd' : q = (u32 * 4294967296 + u1) / y := by omega
    have p0 : 0 ≤ q * n0 := Int.mul_nonneg (by omega) n0a
    have p1 : q * n0 ≤ 4294967295 * 4294967295 := Int.mul_le_mul (by omega) (by omega) n0a (by omega)
    have c1' : wr .u64 (q * n0) = q * n0 := u64_in p0 (by omega)
    have c2' : wr .u64 (wr .u64 (4294967296 * r) + u1) = 4294967296 * r + u1 := by rw [wr_u, wr_u]; unfold u64; omega
    rw [← hd'] at hi ⊢
    refine ⟨1, r, Rd.last (by simp) ?_⟩
    refine To.weak (B := ⟨[2, 8, 9, 10, 11, 13, 14, 15, 16].zip [U y, U s, U n1, U n0, U u32, U u1, U u0, U q, U r], [], 0⟩) ?_ (fun _ h => h) rfl rfl (canB_ok (by rfl))
    refine To.run (z := Zl) sound8 (nbB := 0) (blks := []) (bs := []) (fun dead => dvL5 dead y s n1 n0 u32 u1 u0 q r) rfl rfl rfl ?_ (canB_ok (by rfl)) (Nat.le_refl _)
    have hq2 : decide (q ≥ 4294967296) = false := by simp; omega
    simp only [hq2, c1', c2', all_ff, true_and, and_true, decide_eq_false_iff_not]
    exact ⟨by omega, ae_nil⟩
  | d + 1, q, r, hq, hr0, hr1, hq1, hd => by
    have n0a := h.n0a
    have n0b := h.n0b
    have u1a := h.u1a
    have u1b := h.u1b
    have n1a := h.n1a
    have n1b := h.n1b
    have nn := h.nn
    have lt := h.lt
    have hi := h.iff hq
    have hgt : (u32 * 4294967296 + u1) / y < q := by omega
    have f1 : wr .u64 (q - 1) = q - 1 := u64_in (by omega) (by omega)
    have f2 : wr .u64 (r + n1) = r + n1 := u64_in (by omega) (by omega)
    have hq' : (q - 1) * n1 + (r + n1) = u32 := by rw [← hq]; grind
    have key : ∀ (e : Ex), (r + n1 ≥ 4294967296 → e = .exit 0) → (¬ r + n1 ≥ 4294967296 → e = .normal) → To Tryz.prog 135 dvBody1 (dvS1 y s n1 n0 u32 u1 u0 q r) e (dvS1 y s n1 n0 u32 u1 u0 (q - 1) (r + n1)) := by
      intro e he1 he2
      refine To.weak (B := ⟨[2, 8, 9, 10, 11, 13, 14, 15, 16].zip [U y, U s, U n1, U n0, U u32, U u1, U u0, U (q - 1), U (r + n1)], [], 0⟩) ?_ (fun _ h => h) rfl rfl (canB_ok (by rfl))
      by_cases hqb : q ≥ 4294967296
      · by_cases hb : r + n1 ≥ 4294967296
        · rw [he1 hb]
          refine To.run (z := Zl) sound8 (nbB := 0) (blks := []) (bs := []) (fun dead => dvL1 dead y s n1 n0 u32 u1 u0 q r) rfl (by rw [f1, f2]; rfl) rfl ?_ (canB_ok (by rfl)) (Nat.le_refl _)
          simp only [f2, all_tt, decide_eq_true_eq, hqb, hb, true_and]
          exact ae_nil
        · rw [he2 hb]
          refine To.run (z := Zl) sound8 (nbB := 0) (blks := []) (bs := []) (fun dead => dvL2 dead y s n1 n0 u32 u1 u0 q r) rfl (by rw [f1, f2]; rfl) rfl ?_ (canB_ok (by rfl)) (Nat.le_refl _)
          simp only [f2, all_tt, all_ff, decide_eq_true_eq, decide_eq_false_iff_not, hqb, hb, true_and, not_false_eq_true]
          exact ae_nil
      · have p0 : 0 ≤ q * n0 := Int.mul_nonneg (by omega) n0a
        have p1 : q * n0 ≤ 4294967295 * 4294967295 := Int.mul_le_mul (by omega) (by omega) n0a (by omega)
        have c1' : wr .u64 (q * n0) = q * n0 := u64_in p0 (by omega)
        have c2' : wr .u64 (wr .u64 (4294967296 * r) + u1) = 4294967296 * r + u1 := by rw [wr_u, wr_u]; unfold u64; omega
        have hc := hi.2 hgt
        by_cases hb : r + n1 ≥ 4294967296
        · rw [he1 hb]
          refine To.run (z := Zl) sound8 (nbB := 0) (blks := []) (bs := []) (fun dead => dvL3 dead y s n1 n0 u32 u1 u0 q r) rfl (by rw [f1, f2]; rfl) rfl ?_ (canB_ok (by rfl)) (Nat.le_refl _)
          simp only [f2, c1', c2', all_tt, all_ff, decide_eq_true_eq, decide_eq_false_iff_not, hqb, hb, hc, true_and, not_false_eq_true]
          exact ae_nil
        · rw [he2 hb]
          refine To.run (z := Zl) sound8 (nbB := 0) (blks := []) (bs := []) (fun dead => dvL4 dead y s n1 n0 u32 u1 u0 q r) rfl (by rw [f1, f2]; rfl) rfl ?_ (canB_ok (by rfl)) (Nat.le_refl _)
          simp only [f2, c1', c2', all_tt, all_ff, decide_eq_true_eq, decide_eq_false_iff_not, hqb, hb, hc, true_and, not_false_eq_true]
          exact ae_nil
    by_cases hb : r + n1 ≥ 4294967296
    · have := h.brk hq hgt hb
      refine ⟨1, r + n1, Rd.last (by simp) ?_⟩
      rw [← this]
      exact key _ (fun _ => rfl) (fun h => absurd hb h)
    · obtain ⟨m, r', hm⟩ := dvRd1 (s := s) (u0 := u0) h d (q - 1) (r + n1) hq' (by omega) (by omega) (by omega) (by omega)
      exact ⟨m + 1, r', Rd.next (key _ (fun h => absurd h hb) (fun _ => rfl)) hm⟩
theorem dvRd2 {y s n1 n0 u21 u0 q1 : Int} (h : Dg y n1 n0 u21 u0) : ∀ (d : Nat) (q r : Int), q * n1 + r = u21 → 0 ≤ r → r < 4294967296 → q ≤ 8589934592 → q = (u21 * 4294967296 + u0) / y + d →
    ∃ m r', Rd Tryz.prog 135 dvBody2 m (dvS2 y s n1 n0 u0 q1 u21 q r) (.exit 2) (dvS2 y s n1 n0 u0 q1 u21 ((u21 * 4294967296 + u0) / y) r')
  | 0, q, r, hq, hr0, hr1, hq1, hd => by
    have n0a := h.n0a
    have n0b := h.n0b
    have u1a := h.u1a
    have u1b := h.u1b
    have nn := h.nn
    have lt := h.lt
    have hi := h.iff hq
    have hd' : q = (u21 * 4294967296 + u0) / y := by omega
    have p0 : 0 ≤ q * n0 := Int.mul_nonneg (by omega) n0a
    have p1 : q * n0 ≤ 4294967295 * 4294967295 := Int.mul_le_mul (by omega) (by omega) n0a (by omega)
    have c1' : wr .u64 (q * n0) = q * n0 := u64_in p0 (by omega)
    have c2' : wr .u64 (wr .u64 (4294967296 * r) + u0) = 4294967296 * r + u0 := by rw [wr_u, wr_u]; unfold u64; omega
    rw [← hd'] at hi ⊢
    refine ⟨1, r, Rd.last (by simp) ?_⟩
    refine To.weak (B := ⟨[2, 8, 9, 10, 14, 15, 17, 18, 16].zip [U y, U s, U n1, U n0, U u0, U q1, U u21, U q, U r], [], 0⟩) ?_ (fun _ h => h) rfl rfl (canB_ok (by rfl))
    refine To.run (z := Zl) sound8 (nbB := 0) (blks := []) (bs := []) (fun dead => dvN5 dead y s n1 n0 u0 q1 u21 q r) rfl rfl rfl ?_ (canB_ok (by rfl)) (Nat.le_refl _)
    have hq2 : decide (q ≥ 4294967296) = false := by simp; omega
    simp only [hq2, c1', c2', all_ff, true_and, and_true, decide_eq_false_iff_not]
    exact ⟨by omega, ae_nil⟩
  | d + 1, q, r, hq, hr0, hr1, hq1, hd => by
    have n0a := h.n0a
    have n0b := h.n0b
    have u1a := h.u1a
    have u1b := h.u1b
    have n1a := h.n1a
    have n1b := h.n1b
    have nn := h.nn
    have lt := h.lt
    have hi := h.iff hq
    have hgt : (u21 * 4294967296 + u0) / y < q := by omega
    have f1 : wr .u64 (q - 1) = q - 1 := u64_in (by omega) (by omega)
    have f2 : wr .u64 (r + n1) = r + n1 := u64_in (by omega) (by omega)
    have hq' : (q - 1) * n1 + (r + n1) = u21 := by rw [← hq]; grind
    have key : ∀ (e : Ex), (r + n1 ≥ 4294967296 → e = .exit 2) → (¬ r + n1 ≥ 4294967296 → e = .normal) → To Tryz.prog 135 dvBody2 (dvS2 y s n1 n0 u0 q1 u21 q r) e (dvS2 y s n1 n0 u0 q1 u21 (q - 1) (r + n1)) := by
      intro e he1 he2
      refine To.weak (B := ⟨[2, 8, 9, 10, 14, 15, 17, 18, 16].zip [U y, U s, U n1, U n0, U u0, U q1, U u21, U (q - 1), U (r + n1)], [], 0⟩) ?_ (fun _ h => h) rfl rfl (canB_ok (by rfl))
      by_cases hqb : q ≥ 4294967296
      · by_cases hb : r + n1 ≥ 4294967296
        · rw [he1 hb]
          refine To.run (z := Zl) sound8 (nbB := 0) (blks := []) (bs := []) (fun dead => dvN1 dead y s n1 n0 u0 q1 u21 q r) rfl (by rw [f1, f2]; rfl) rfl ?_ (canB_ok (by rfl)) (Nat.le_refl _)
          simp only [f2, all_tt, decide_eq_true_eq, hqb, hb, true_and]
          exact ae_nil
        · rw [he2 hb]
          refine To.run (z := Zl) sound8 (nbB := 0) (blks := []) (bs := []) (fun dead => dvN2 dead y s n1 n0 u0 q1 u21 q r) rfl (by rw [f1, f2]; rfl) rfl ?_ (canB_ok (by rfl)) (Nat.le_refl _)
          simp only [f2, all_tt, all_ff, decide_eq_true_eq, decide_eq_false_iff_not, hqb, hb, true_and, not_false_eq_true]
          exact ae_nil
      · have p0 : 0 ≤ q * n0 := Int.mul_nonneg (by omega) n0a
        have p1 : q * n0 ≤ 4294967295 * 4294967295 := Int.mul_le_mul (by omega) (by omega) n0a (by omega)
        have c1' : wr .u64 (q * n0) = q * n0 := u64_in p0 (by omega)
        have c2' : wr .u64 (wr .u64 (4294967296 * r) + u0) = 4294967296 * r + u0 := by rw [wr_u, wr_u]; unfold u64; omega
        have hc := hi.2 hgt
        by_cases hb : r + n1 ≥ 4294967296
        · rw [he1 hb]
          refine To.run (z := Zl) sound8 (nbB := 0) (blks := []) (bs := []) (fun dead => dvN3 dead y s n1 n0 u0 q1 u21 q r) rfl (by rw [f1, f2]; rfl) rfl ?_ (canB_ok (by rfl)) (Nat.le_refl _)
          simp only [f2, c1', c2', all_tt, all_ff, decide_eq_true_eq, decide_eq_false_iff_not, hqb, hb, hc, true_and, not_false_eq_true]
          exact ae_nil
        · rw [he2 hb]
          refine To.run (z := Zl) sound8 (nbB := 0) (blks := []) (bs := []) (fun dead => dvN4 dead y s n1 n0 u0 q1 u21 q r) rfl (by rw [f1, f2]; rfl) rfl ?_ (canB_ok (by rfl)) (Nat.le_refl _)
          simp only [f2, c1', c2', all_tt, all_ff, decide_eq_true_eq, decide_eq_false_iff_not, hqb, hb, hc, true_and, not_false_eq_true]
          exact ae_nil
    by_cases hb : r + n1 ≥ 4294967296
    · have := h.brk hq hgt hb
      refine ⟨1, r + n1, Rd.last (by simp) ?_⟩
      rw [← this]
      exact key _ (fun _ => rfl) (fun h => absurd hb h)
    · obtain ⟨m, r', hm⟩ := dvRd2 (s := s) (q1 := q1) h d (q - 1) (r + n1) hq' (by omega) (by omega) (by omega) (by omega)
      exact ⟨m + 1, r', Rd.next (key _ (fun h => absurd h hb) (fun _ => rfl)) hm⟩
def div64S : List LV → Option (LV × List (Bool × Bool))
  | [.v (.one (.int .u64 h)), .v (.one (.int .u64 l)), .v (.one (.int .u64 y))] => some (.tup [.one (.int .u64 (wVal h l / y)), .one (.int .u64 (wVal h l % y))], [(isU h, true), (isU l, true), (isU y, true), (decide (h < y), true)])
  | _ => none
theorem tdiv_pos {a b : Int} (h : 0 ≤ a) : a.tdiv b = a / b := Int.tdiv_eq_ediv_of_nonneg h
theorem tmod_pos {a b : Int} (h : 0 ≤ a) : a.tmod b = a % b := Int.tmod_eq_emod_of_nonneg h
theorem dg_est {y n1 n0 u u1 : Int} (h : Dg y n1 n0 u u1) (hu : u < 18446744073709551616) : u / n1 * n1 + u % n1 = u ∧ 0 ≤ u % n1 ∧ u % n1 < 4294967296 ∧ u / n1 ≤ 8589934592 ∧ ∃ d : Nat, u / n1 = (u * 4294967296 + u1) / y + d := by
  have n1a := h.n1a
  have n1b := h.n1b
  have ua := h.ua
  have e := Int.emod_add_mul_ediv u n1
  have m0 := Int.emod_nonneg u (show n1 ≠ 0 by omega)
  have m1 := Int.emod_lt_of_pos u (show 0 < n1 by omega)
  have e' : u / n1 * n1 + u % n1 = u := by rw [Int.mul_comm]; omega
  have hd : u / n1 < 8589934593 := Int.ediv_lt_of_lt_mul (by omega) (by omega)
  refine ⟨e', m0, by omega, by omega, ?_⟩
  have hi := h.iff (q := u / n1 + 1) (r := u % n1 - n1) (by rw [Int.add_mul]; omega)
  have hlt : (u * 4294967296 + u1) / y < u / n1 + 1 := by
    rw [← hi]
    have : 0 ≤ (u / n1 + 1) * n0 := Int.mul_nonneg (by have := Int.ediv_nonneg ua (show 0 ≤ n1 by omega); omega) h.n0a
    have := h.u1b
    omega
  have nn := h.nn
  exact ⟨(u / n1 - (u * 4294967296 + u1) / y).toNat, by omega⟩
theorem sumDiv64 : SumOK Tryz.prog 180 (pureSum div64S) := by
  refine pureSum_ok fun args v cs hF hc w => ?_
  unfold div64S at hF
  split at hF
  · rename_i h l y0
    cases hF
    simp only [all_tt, isU_iff, decide_eq_true_eq] at hc
    obtain ⟨⟨hh0, hh1⟩, ⟨hl0, hl1⟩, ⟨hy0, hy1⟩, hlt, -⟩ := hc
    have hypos : 0 < y0 := by omega
    have a1 : (y0 == 0) = false := by simp; omega
    have a2 : decide (y0 ≤ h) = false := by simp; omega
    refine callOK_of (own_of sound8 Tryz.func180 (by kernel_rfl)) ?_
    by_cases hz : h = 0
    · subst hz
      have hv : wVal 0 l = l := by unfold wVal; omega
      rw [hv]
      have q0 : 0 ≤ l / y0 := Int.ediv_nonneg hl0 hy0
      have q1 : l / y0 ≤ l := Int.ediv_le_self _ hl0
      refine calls_pure (c := bodyF Tryz.prog 180) (e := .ret) (B := ⟨[(6, U (l / y0)), (7, U (l % y0))], [], 0⟩) Tryz.func180 (by kernel_rfl) (Nat.le_of_ble_eq_true (by kernel_rfl)) (Nat.le_of_ble_eq_true (by kernel_rfl)) rfl ?_ (.inr rfl) (fun dead => by kernel_rfl) rfl w
      refine To.weak (B := ⟨[6, 7].zip [U (l / y0), U (l % y0)], [], 0⟩) ?_ (fun _ h => h) rfl rfl (canB_ok (by rfl))
      refine To.run (z := Zl) sound8 (nbB := 0) (blks := []) (bs := []) (fun dead => dvZ dead 0 l y0) rfl (by rw [tdiv_pos hl0, tmod_pos hl0, wr_u, u64_in q0 (by omega)]; rfl) rfl ?_ (canB_ok (by rfl)) (Nat.le_refl _)
      simp only [all_tt, all_ff, a1, a2, decide_eq_false_iff_not, true_and, beq_self_eq_true]
      exact ⟨by omega, by omega, ae_nil⟩
    · obtain ⟨s0, s1, k0, k1⟩ := lzV_spec hypos hy1
      have w1 : wr .u64 (lzV y0) = lzV y0 := u64_in s0 (by omega)
      have w2 : wr .u64 (64 - lzV y0) = 64 - lzV y0 := u64_in (by omega) (by omega)
      have w3 : min (lzV y0).toNat IntKind.u64.bits = (lzV y0).toNat := min64 s0 (by omega)
      have w4 : min (64 - lzV y0).toNat IntKind.u64.bits = (64 - lzV y0).toNat := min64 (by omega) (by omega)
      have hpq : pow2 (lzV y0).toNat * pow2 (64 - lzV y0).toNat = 18446744073709551616 := by rw [← pow2_add, ← pow2_64]; congr 1; omega
      obtain ⟨g1, g2, g3, g4, g5, g6, g7, g8⟩ := shl_lt h l _ _ (pow2_pos _) (pow2_pos _) hpq hl0 hl1
      have hp := pow2_pos (lzV y0).toNat
      have hq := pow2_pos (64 - lzV y0).toNat
      have hior := (ior_add _ _ _ g8 g5 g6 g7).1
      generalize hsv : lzV y0 = s at *
      generalize hpv : pow2 s.toNat = p at *
      generalize hqv : pow2 (64 - s).toNat = q at *
      have w5 : wr .u64 (y0 * p) = y0 * p := u64_in (by omega) k1
      have hVlt : wVal h l * p < 340282366920938463463374607431768211456 := by
        have e : wVal h l < y0 * 18446744073709551616 := by
          unfold wVal
          have : (h + 1) * 18446744073709551616 ≤ y0 * 18446744073709551616 := Int.mul_le_mul_of_nonneg_right (by omega) (by omega)
          omega
        have e2 : wVal h l * p ≤ y0 * 18446744073709551616 * p := Int.mul_le_mul_of_nonneg_right (by omega) (by omega)
        have e3 : y0 * 18446744073709551616 * p = y0 * p * 18446744073709551616 := by grind
        rw [e3] at e2
        omega
      have hV0 : 0 ≤ wVal h l * p := Int.mul_nonneg (by unfold wVal; omega) (by omega)
      have hVm : wVal h l * p % 340282366920938463463374607431768211456 = wVal h l * p := by omega
      rw [hVm] at g1 g2
      -- the dividend, shifted
      generalize hX : wVal h l * p = X at *
      have x32 : Int.ofNat ((u64 (wr .u64 (h * p))).toNat.lor (u64 (l / q)).toNat) = wHi X := by rw [wr_u, g3, g1]; exact hior
      have x10 : wr .u64 (l * p) = wLo X := by rw [wr_u, g4, g2]
      have u32b : wHi X < y0 * p := by
        have e : X < y0 * p * 18446744073709551616 := by
          rw [← hX]
          have e0 : wVal h l < y0 * 18446744073709551616 := by
            unfold wVal
            have : (h + 1) * 18446744073709551616 ≤ y0 * 18446744073709551616 := Int.mul_le_mul_of_nonneg_right (by omega) (by omega)
            omega
          have e2 : wVal h l * p < y0 * 18446744073709551616 * p := Int.mul_lt_mul_of_pos_right e0 hp
          have e3 : y0 * 18446744073709551616 * p = y0 * p * 18446744073709551616 := by grind
          omega
        unfold wHi; omega
      have xlo := wLo_in X
      have u0a : 0 ≤ wHi X := by unfold wHi; omega
      have land1 : Int.ofNat ((u64 (wLo X)).toNat.land (u64 4294967295).toNat) = wLo X % 4294967296 := land32 _ xlo.1 xlo.2
      have hyv0 : 9223372036854775808 ≤ y0 * p := k0
      have land2 : Int.ofNat ((u64 (y0 * p)).toNat.land (u64 4294967295).toNat) = y0 * p % 4294967296 := land32 _ (by omega) k1
      generalize hY : y0 * p = y at *
      have hDg1 : Dg y (y / 4294967296) (y % 4294967296) (wHi X) (wLo X / 4294967296) := ⟨by omega, by omega, by omega, by omega, by omega, u0a, u32b, by omega, by omega⟩
      have hXv : X = (wHi X * 4294967296 + wLo X / 4294967296) * 4294967296 + wLo X % 4294967296 := by unfold wHi wLo; omega
      obtain ⟨D1, D2⟩ := div_digits (V := wVal h l) (p := p) (y0 := y0) (y := y) hp hypos hY.symm (hX.trans hXv)
      generalize wHi X = u32 at *
      generalize hu1 : wLo X / 4294967296 = u1 at *
      generalize hu0 : wLo X % 4294967296 = u0 at *
      have hn1 : y / pow2 (min (Int.toNat 32) IntKind.u64.bits) = y / 4294967296 := by rw [pow2_32u]
      have hu0a : 0 ≤ u0 ∧ u0 < 4294967296 := by omega
      obtain ⟨E1, E2, E3, E4, d1, E5⟩ := dg_est hDg1 (by omega)
      generalize hN1 : y / 4294967296 = n1 at *
      generalize hN0 : y % 4294967296 = n0 at *
      obtain ⟨m1, r1, hR1⟩ := dvRd1 (s := s) (u0 := u0) hDg1 d1 _ _ E1 E2 E3 E4 E5
      have nn1 := hDg1.nn
      have lt1 := hDg1.lt
      have ypos := hDg1.ypos
      have m0 := Int.emod_nonneg (u32 * 4294967296 + u1) (show y ≠ 0 by omega)
      have m1' := Int.emod_lt_of_pos (u32 * 4294967296 + u1) ypos
      have emd := Int.emod_add_mul_ediv (u32 * 4294967296 + u1) y
      generalize hq1 : (u32 * 4294967296 + u1) / y = q1 at *
      generalize hu21 : (u32 * 4294967296 + u1) % y = u21 at *
      have hDg2 : Dg y n1 n0 u21 u0 := ⟨hDg1.yd, hDg1.n1a, hDg1.n1b, hDg1.n0a, hDg1.n0b, m0, m1', hu0a.1, hu0a.2⟩
      obtain ⟨F1, F2, F3, F4, d2, F5⟩ := dg_est hDg2 (by omega)
      obtain ⟨m2, r2, hR2⟩ := dvRd2 (s := s) (q1 := q1) hDg2 d2 _ _ F1 F2 F3 F4 F5
      have nn2 := hDg2.nn
      have lt2 := hDg2.lt
      have m2a := Int.emod_nonneg (u21 * 4294967296 + u0) (show y ≠ 0 by omega)
      have m2b := Int.emod_lt_of_pos (u21 * 4294967296 + u0) ypos
      have emd2 := Int.emod_add_mul_ediv (u21 * 4294967296 + u0) y
      have n1a := hDg1.n1a
      have n1b := hDg1.n1b
      -- the values, as the machine has them
      have v1 : wr .u64 (u32.tdiv n1) = u32 / n1 := by rw [tdiv_pos u0a, wr_u]; exact u64_in (Int.ediv_nonneg u0a (by omega)) (by omega)
      have v2 : wr .u64 (u32 - wr .u64 (u32 / n1 * n1)) = u32 % n1 := by
        simp only [wr_u]
        generalize u32 / n1 * n1 = t at *
        unfold u64; omega
      have v3 : wr .u64 (wr .u64 (wr .u64 (u32 * 4294967296) + u1) - wr .u64 (q1 * y)) = u21 := by
        simp only [wr_u]
        have e : y * q1 = q1 * y := Int.mul_comm _ _
        rw [e] at emd
        generalize q1 * y = t at *
        unfold u64; omega
      have v4 : wr .u64 (u21.tdiv n1) = u21 / n1 := by rw [tdiv_pos m0, wr_u]; exact u64_in (Int.ediv_nonneg m0 (by omega)) (by omega)
      have v5 : wr .u64 (u21 - wr .u64 (u21 / n1 * n1)) = u21 % n1 := by
        simp only [wr_u]
        generalize u21 / n1 * n1 = t at *
        unfold u64; omega
      have v6 : wr .u64 (wr .u64 (q1 * 4294967296) + (u21 * 4294967296 + u0) / y) = wVal h l / y0 := by
        rw [← D1]
        simp only [wr_u]
        unfold u64; omega
      have v7 : wr .u64 (wr .u64 (wr .u64 (u21 * 4294967296) + u0) - wr .u64 ((u21 * 4294967296 + u0) / y * y)) / p = wVal h l % y0 := by
        rw [← D2]
        congr 1
        simp only [wr_u]
        have e : y * ((u21 * 4294967296 + u0) / y) = (u21 * 4294967296 + u0) / y * y := Int.mul_comm _ _
        rw [e] at emd2
        generalize (u21 * 4294967296 + u0) / y * y = t at *
        unfold u64; omega
      refine calls_pure (c := bodyF Tryz.prog 180) (e := .ret) (B := ⟨[(6, U (wVal h l / y0)), (7, U (wVal h l % y0))], [], 0⟩) Tryz.func180 (by kernel_rfl) (Nat.le_of_ble_eq_true (by kernel_rfl)) (Nat.le_of_ble_eq_true (by kernel_rfl)) rfl ?_ (.inr rfl) (fun dead => by kernel_rfl) rfl w
      refine To.spineR (z := Zl) sound8 (k := 14) (nbB := 0) (blks := []) (bs := []) (by kernel_rfl) (fun dead => dvA dead h l y0) rfl
        (vs := [U y, U s, U n1, U n0, U u32, U u1, U u0, U (u32 / n1), U (u32 % n1)]) ?_ rfl ?_ (canB_ok (by rfl)) (Nat.le_refl _) ?_
      · simp only [hsv, w1, w2, w3, w4, hpv, hqv, w5, hY, x32, x10, pow2_32u, land1, land2, hN1, hu1, hu0, hN0, v1, v2]
        rfl
      · simp only [hsv, w1, w2, w3, w4, hpv, hqv, w5, hY, pow2_32u, hN1, all_tt, all_ff, isU_iff, decide_eq_true_eq, a1, a2, decide_eq_false_iff_not, true_and]
        refine ⟨by omega, by omega, by omega, by omega, by omega, ⟨hy0, hy1⟩, hypos, by simpa using hz, ae_nil⟩
      · refine To.seq (by kernel_rfl) (To.block (id := 0) (by kernel_rfl) (To.loop (by kernel_rfl) hR1) (.inl rfl)) ?_
        refine To.spineR (z := Zl) sound8 (k := 3) (nbB := 0) (blks := []) (bs := []) (by kernel_rfl) (fun dead => dvM dead y s n1 n0 u32 u1 u0 q1 r1) rfl
          (vs := [U y, U s, U n1, U n0, U u0, U q1, U u21, U (u21 / n1), U (u21 % n1)]) ?_ rfl ?_ (canB_ok (by rfl)) (Nat.le_refl _) ?_
        · simp only [v3, v4, v5]; rfl
        · simp only [all_ff, decide_eq_false_iff_not]; exact ⟨by omega, ae_nil⟩
        · refine To.seq (by kernel_rfl) (To.block (id := 2) (by kernel_rfl) (To.loop (by kernel_rfl) hR2) (.inl rfl)) ?_
          refine To.weak (B := ⟨[6, 7].zip [U (wVal h l / y0), U (wVal h l % y0)], [], 0⟩) ?_ (fun _ h => h) rfl rfl (canB_ok (by rfl))
          refine To.run (z := Zl) sound8 (nbB := 0) (blks := []) (bs := []) (fun dead => dvE dead y s n1 n0 u0 q1 u21 _ r2) rfl ?_ rfl ?_ (canB_ok (by rfl)) (Nat.le_refl _)
          · simp only [w3, hpv, v6, v7]; rfl
          · simp only [all_ff, decide_eq_false_iff_not]; exact ⟨by omega, ae_nil⟩
  · cases hF
def S9 : FuncId → Option SumK := more (more S8 136 (pureSum rootS)) 180 (pureSum div64S)
theorem sound9 : Sound Tryz.prog S9 := (sound8.more sumRoot).more sumDiv64
end Go.Proofs.YthbkhoknlbomgaaGreat

/- wide.Div: by every path of its run (printed), and what it comes to. -/
namespace Go.Proofs.YthbkhoknlbomgaaGreat
open Go.Lr
set_option linter.unusedVariables false
set_option linter.unusedSimpArgs false
theorem wdivR1 (x y d : Int) : (runF Tryz.prog S9 Zl 2000 134 [.v (.agg [.int .i64 x, .int .u64 y]), .v (.one (.int .i64 d))] [] 0 [some true]).map (fun r => (r.1, r.2.2.2)) = some (LV.tup [V1.one (At.int IntKind.i64 0), V1.one (At.bool false)], [(d == 0, true)]) := by kernel_rfl
theorem wdivR2 (x y d : Int) : (runF Tryz.prog S9 Zl 2000 134 [.v (.agg [.int .i64 x, .int .u64 y]), .v (.one (.int .i64 d))] [] 0 [some false, some true]).map (fun r => (r.1, r.2.2.2)) = some (LV.tup [V1.one (At.int IntKind.i64 (if isI (sgn (!decide (wVal x y < 0) == decide (d < 0)) (wVal (wHi ((wVal (wr IntKind.u64 ((wHi (absV (wVal x y))).tdiv (absV d))) (wVal ((wHi (absV (wVal x y))).tmod (absV d)) (wLo (absV (wVal x y))) / absV d) + wVal 0 1) % 340282366920938463463374607431768211456)) (wLo ((wVal (wr IntKind.u64 ((wHi (absV (wVal x y))).tdiv (absV d))) (wVal ((wHi (absV (wVal x y))).tmod (absV d)) (wLo (absV (wVal x y))) / absV d) + wVal 0 1) % 340282366920938463463374607431768211456)))) = true then sgn (!decide (wVal x y < 0) == decide (d < 0)) (wVal (wHi ((wVal (wr IntKind.u64 ((wHi (absV (wVal x y))).tdiv (absV d))) (wVal ((wHi (absV (wVal x y))).tmod (absV d)) (wLo (absV (wVal x y))) / absV d) + wVal 0 1) % 340282366920938463463374607431768211456)) (wLo ((wVal (wr IntKind.u64 ((wHi (absV (wVal x y))).tdiv (absV d))) (wVal ((wHi (absV (wVal x y))).tmod (absV d)) (wLo (absV (wVal x y))) / absV d) + wVal 0 1) % 340282366920938463463374607431768211456))) else 0)), V1.one (At.bool (isI (sgn (!decide (wVal x y < 0) == decide (d < 0)) (wVal (wHi ((wVal (wr IntKind.u64 ((wHi (absV (wVal x y))).tdiv (absV d))) (wVal ((wHi (absV (wVal x y))).tmod (absV d)) (wLo (absV (wVal x y))) / absV d) + wVal 0 1) % 340282366920938463463374607431768211456)) (wLo ((wVal (wr IntKind.u64 ((wHi (absV (wVal x y))).tdiv (absV d))) (wVal ((wHi (absV (wVal x y))).tmod (absV d)) (wLo (absV (wVal x y))) / absV d) + wVal 0 1) % 340282366920938463463374607431768211456))))))], [(isU (wHi ((wVal (wr IntKind.u64 ((wHi (absV (wVal x y))).tdiv (absV d))) (wVal ((wHi (absV (wVal x y))).tmod (absV d)) (wLo (absV (wVal x y))) / absV d) + wVal 0 1) % 340282366920938463463374607431768211456)), true), (isU (wLo ((wVal (wr IntKind.u64 ((wHi (absV (wVal x y))).tdiv (absV d))) (wVal ((wHi (absV (wVal x y))).tmod (absV d)) (wLo (absV (wVal x y))) / absV d) + wVal 0 1) % 340282366920938463463374607431768211456)), true), (isU (wr IntKind.u64 ((wHi (absV (wVal x y))).tdiv (absV d))), true), (isU (wVal ((wHi (absV (wVal x y))).tmod (absV d)) (wLo (absV (wVal x y))) / absV d), true), (isU 0, true), (isU 1, true), (decide (wVal ((wHi (absV (wVal x y))).tmod (absV d)) (wLo (absV (wVal x y))) % absV d ≥ wr IntKind.u64 (absV d - wVal ((wHi (absV (wVal x y))).tmod (absV d)) (wLo (absV (wVal x y))) % absV d)), true), (isU ((wHi (absV (wVal x y))).tmod (absV d)), true), (isU (wLo (absV (wVal x y))), true), (isU (absV d), true), (decide ((wHi (absV (wVal x y))).tmod (absV d) < absV d), true), (decide (absV d = 0), false), (decide (absV d = 0), false), (isI d, true), (isI x, true), (isU y, true), (d == 0, false)]) := by kernel_rfl
theorem wdivR3 (x y d : Int) : (runF Tryz.prog S9 Zl 2000 134 [.v (.agg [.int .i64 x, .int .u64 y]), .v (.one (.int .i64 d))] [] 0 [some false, some false]).map (fun r => (r.1, r.2.2.2)) = some (LV.tup [V1.one (At.int IntKind.i64 (if isI (sgn (!decide (wVal x y < 0) == decide (d < 0)) (wVal (wr IntKind.u64 ((wHi (absV (wVal x y))).tdiv (absV d))) (wVal ((wHi (absV (wVal x y))).tmod (absV d)) (wLo (absV (wVal x y))) / absV d))) = true then sgn (!decide (wVal x y < 0) == decide (d < 0)) (wVal (wr IntKind.u64 ((wHi (absV (wVal x y))).tdiv (absV d))) (wVal ((wHi (absV (wVal x y))).tmod (absV d)) (wLo (absV (wVal x y))) / absV d)) else 0)), V1.one (At.bool (isI (sgn (!decide (wVal x y < 0) == decide (d < 0)) (wVal (wr IntKind.u64 ((wHi (absV (wVal x y))).tdiv (absV d))) (wVal ((wHi (absV (wVal x y))).tmod (absV d)) (wLo (absV (wVal x y))) / absV d)))))], [(isU (wr IntKind.u64 ((wHi (absV (wVal x y))).tdiv (absV d))), true), (isU (wVal ((wHi (absV (wVal x y))).tmod (absV d)) (wLo (absV (wVal x y))) / absV d), true), (decide (wVal ((wHi (absV (wVal x y))).tmod (absV d)) (wLo (absV (wVal x y))) % absV d ≥ wr IntKind.u64 (absV d - wVal ((wHi (absV (wVal x y))).tmod (absV d)) (wLo (absV (wVal x y))) % absV d)), false), (isU ((wHi (absV (wVal x y))).tmod (absV d)), true), (isU (wLo (absV (wVal x y))), true), (isU (absV d), true), (decide ((wHi (absV (wVal x y))).tmod (absV d) < absV d), true), (decide (absV d = 0), false), (decide (absV d = 0), false), (isI d, true), (isI x, true), (isU y, true), (d == 0, false)]) := by kernel_rfl
def wdivT (x y d : Int) : Option (LV × List (Bool × Bool)) := 
  bif (d == 0) then some (LV.tup [V1.one (At.int IntKind.i64 0), V1.one (At.bool false)], [])
  else 
    bif (decide (wVal ((wHi (absV (wVal x y))).tmod (absV d)) (wLo (absV (wVal x y))) % absV d ≥ wr IntKind.u64 (absV d - wVal ((wHi (absV (wVal x y))).tmod (absV d)) (wLo (absV (wVal x y))) % absV d))) then some (LV.tup [V1.one (At.int IntKind.i64 (if isI (sgn (!decide (wVal x y < 0) == decide (d < 0)) (wVal (wHi ((wVal (wr IntKind.u64 ((wHi (absV (wVal x y))).tdiv (absV d))) (wVal ((wHi (absV (wVal x y))).tmod (absV d)) (wLo (absV (wVal x y))) / absV d) + wVal 0 1) % 340282366920938463463374607431768211456)) (wLo ((wVal (wr IntKind.u64 ((wHi (absV (wVal x y))).tdiv (absV d))) (wVal ((wHi (absV (wVal x y))).tmod (absV d)) (wLo (absV (wVal x y))) / absV d) + wVal 0 1) % 340282366920938463463374607431768211456)))) = true then sgn (!decide (wVal x y < 0) == decide (d < 0)) (wVal (wHi ((wVal (wr IntKind.u64 ((wHi (absV (wVal x y))).tdiv (absV d))) (wVal ((wHi (absV (wVal x y))).tmod (absV d)) (wLo (absV (wVal x y))) / absV d) + wVal 0 1) % 340282366920938463463374607431768211456)) (wLo ((wVal (wr IntKind.u64 ((wHi (absV (wVal x y))).tdiv (absV d))) (wVal ((wHi (absV (wVal x y))).tmod (absV d)) (wLo (absV (wVal x y))) / absV d) + wVal 0 1) % 340282366920938463463374607431768211456))) else 0)), V1.one (At.bool (isI (sgn (!decide (wVal x y < 0) == decide (d < 0)) (wVal (wHi ((wVal (wr IntKind.u64 ((wHi (absV (wVal x y))).tdiv (absV d))) (wVal ((wHi (absV (wVal x y))).tmod (absV d)) (wLo (absV (wVal x y))) / absV d) + wVal 0 1) % 340282366920938463463374607431768211456)) (wLo ((wVal (wr IntKind.u64 ((wHi (absV (wVal x y))).tdiv (absV d))) (wVal ((wHi (absV (wVal x y))).tmod (absV d)) (wLo (absV (wVal x y))) / absV d) + wVal 0 1) % 340282366920938463463374607431768211456))))))], [(isU (wHi ((wVal (wr IntKind.u64 ((wHi (absV (wVal x y))).tdiv (absV d))) (wVal ((wHi (absV (wVal x y))).tmod (absV d)) (wLo (absV (wVal x y))) / absV d) + wVal 0 1) % 340282366920938463463374607431768211456)), true), (isU (wLo ((wVal (wr IntKind.u64 ((wHi (absV (wVal x y))).tdiv (absV d))) (wVal ((wHi (absV (wVal x y))).tmod (absV d)) (wLo (absV (wVal x y))) / absV d) + wVal 0 1) % 340282366920938463463374607431768211456)), true), (isU (wr IntKind.u64 ((wHi (absV (wVal x y))).tdiv (absV d))), true), (isU (wVal ((wHi (absV (wVal x y))).tmod (absV d)) (wLo (absV (wVal x y))) / absV d), true), (isU 0, true), (isU 1, true), (isU ((wHi (absV (wVal x y))).tmod (absV d)), true), (isU (wLo (absV (wVal x y))), true), (isU (absV d), true), (decide ((wHi (absV (wVal x y))).tmod (absV d) < absV d), true), (decide (absV d = 0), false), (isI d, true), (isI x, true), (isU y, true)])
    else some (LV.tup [V1.one (At.int IntKind.i64 (if isI (sgn (!decide (wVal x y < 0) == decide (d < 0)) (wVal (wr IntKind.u64 ((wHi (absV (wVal x y))).tdiv (absV d))) (wVal ((wHi (absV (wVal x y))).tmod (absV d)) (wLo (absV (wVal x y))) / absV d))) = true then sgn (!decide (wVal x y < 0) == decide (d < 0)) (wVal (wr IntKind.u64 ((wHi (absV (wVal x y))).tdiv (absV d))) (wVal ((wHi (absV (wVal x y))).tmod (absV d)) (wLo (absV (wVal x y))) / absV d)) else 0)), V1.one (At.bool (isI (sgn (!decide (wVal x y < 0) == decide (d < 0)) (wVal (wr IntKind.u64 ((wHi (absV (wVal x y))).tdiv (absV d))) (wVal ((wHi (absV (wVal x y))).tmod (absV d)) (wLo (absV (wVal x y))) / absV d)))))], [(isU (wr IntKind.u64 ((wHi (absV (wVal x y))).tdiv (absV d))), true), (isU (wVal ((wHi (absV (wVal x y))).tmod (absV d)) (wLo (absV (wVal x y))) / absV d), true), (isU ((wHi (absV (wVal x y))).tmod (absV d)), true), (isU (wLo (absV (wVal x y))), true), (isU (absV d), true), (decide ((wHi (absV (wVal x y))).tmod (absV d) < absV d), true), (decide (absV d = 0), false), (isI d, true), (isI x, true), (isU y, true)])
def wdivF : List LV → Option (LV × List (Bool × Bool))
  | [.v (.agg [.int .i64 x, .int .u64 y]), .v (.one (.int .i64 d))] => wdivT x y d
  | _ => none
theorem sumwdiv : SumOK Tryz.prog 134 (pureSum wdivF) := by
  refine pureSum_run (z := Zl) sound9 (own_of sound9 Tryz.func134 (by kernel_rfl)) fun args v cs hF hc => ?_
  unfold wdivF at hF
  split at hF
  · rename_i x y d
    unfold wdivT at hF
    rcases bool_cases (d == 0) with h0 | h0
    · rw [cond_t h0] at hF
      cases hF
      exact ⟨2000, [some true], _, wdivR1 x y d, ae_cons (h0) (ae_nil)⟩
    · rw [cond_f h0] at hF
      rcases bool_cases (decide (wVal ((wHi (absV (wVal x y))).tmod (absV d)) (wLo (absV (wVal x y))) % absV d ≥ wr IntKind.u64 (absV d - wVal ((wHi (absV (wVal x y))).tmod (absV d)) (wLo (absV (wVal x y))) % absV d))) with h1 | h1
      · rw [cond_t h1] at hF
        cases hF
        exact ⟨2000, [some false, some true], _, wdivR2 x y d, ae_cons (hd_of (hc)) (ae_cons (hd_of (tl_of (hc))) (ae_cons (hd_of (tl_of (tl_of (hc)))) (ae_cons (hd_of (tl_of (tl_of (tl_of (hc))))) (ae_cons (hd_of (tl_of (tl_of (tl_of (tl_of (hc)))))) (ae_cons (hd_of (tl_of (tl_of (tl_of (tl_of (tl_of (hc))))))) (ae_cons (h1) (ae_cons (hd_of (tl_of (tl_of (tl_of (tl_of (tl_of (tl_of (hc)))))))) (ae_cons (hd_of (tl_of (tl_of (tl_of (tl_of (tl_of (tl_of (tl_of (hc))))))))) (ae_cons (hd_of (tl_of (tl_of (tl_of (tl_of (tl_of (tl_of (tl_of (tl_of (hc)))))))))) (ae_cons (hd_of (tl_of (tl_of (tl_of (tl_of (tl_of (tl_of (tl_of (tl_of (tl_of (hc))))))))))) (ae_cons (hd_of (tl_of (tl_of (tl_of (tl_of (tl_of (tl_of (tl_of (tl_of (tl_of (tl_of (hc)))))))))))) (ae_cons (hd_of (tl_of (tl_of (tl_of (tl_of (tl_of (tl_of (tl_of (tl_of (tl_of (tl_of (hc)))))))))))) (ae_cons (hd_of (tl_of (tl_of (tl_of (tl_of (tl_of (tl_of (tl_of (tl_of (tl_of (tl_of (tl_of (hc))))))))))))) (ae_cons (hd_of (tl_of (tl_of (tl_of (tl_of (tl_of (tl_of (tl_of (tl_of (tl_of (tl_of (tl_of (tl_of (hc)))))))))))))) (ae_cons (hd_of (tl_of (tl_of (tl_of (tl_of (tl_of (tl_of (tl_of (tl_of (tl_of (tl_of (tl_of (tl_of (tl_of (hc))))))))))))))) (ae_cons (h0) (ae_nil)))))))))))))))))⟩
      · rw [cond_f h1] at hF
        cases hF
        exact ⟨2000, [some false, some false], _, wdivR3 x y d, ae_cons (hd_of (hc)) (ae_cons (hd_of (tl_of (hc))) (ae_cons (h1) (ae_cons (hd_of (tl_of (tl_of (hc)))) (ae_cons (hd_of (tl_of (tl_of (tl_of (hc))))) (ae_cons (hd_of (tl_of (tl_of (tl_of (tl_of (hc)))))) (ae_cons (hd_of (tl_of (tl_of (tl_of (tl_of (tl_of (hc))))))) (ae_cons (hd_of (tl_of (tl_of (tl_of (tl_of (tl_of (tl_of (hc)))))))) (ae_cons (hd_of (tl_of (tl_of (tl_of (tl_of (tl_of (tl_of (hc)))))))) (ae_cons (hd_of (tl_of (tl_of (tl_of (tl_of (tl_of (tl_of (tl_of (hc))))))))) (ae_cons (hd_of (tl_of (tl_of (tl_of (tl_of (tl_of (tl_of (tl_of (tl_of (hc)))))))))) (ae_cons (hd_of (tl_of (tl_of (tl_of (tl_of (tl_of (tl_of (tl_of (tl_of (tl_of (hc))))))))))) (ae_cons (h0) (ae_nil)))))))))))))⟩
  · cases hF
theorem long_div {B b : Int} (hb : 0 < b) : wVal (wHi B / b) (wVal (wHi B % b) (wLo B) / b) = B / b ∧ wVal (wHi B % b) (wLo B) % b = B % b := by
  have e1 := Int.emod_add_mul_ediv (wHi B) b
  have e2 := Int.emod_add_mul_ediv (wVal (wHi B % b) (wLo B)) b
  have m0 := Int.emod_nonneg (wVal (wHi B % b) (wLo B)) (show b ≠ 0 by omega)
  have m1 := Int.emod_lt_of_pos (wVal (wHi B % b) (wLo B)) hb
  have e3 := wVal_mk B
  generalize hq : wHi B / b = q at *
  generalize hr : wHi B % b = r at *
  generalize ht : wVal r (wLo B) / b = t at *
  generalize hs : wVal r (wLo B) % b = s at *
  have e4 : B = wVal q t * b + s := by
    have : B = wHi B * 18446744073709551616 + wLo B := by rw [← e3]; simp only [hi_mk _ _ (wLo_in B).1 (wLo_in B).2, lo_mk _ _ (wLo_in B).1 (wLo_in B).2]; rfl
    rw [this, ← e1]
    have e5 : wVal r (wLo B) = r * 18446744073709551616 + wLo B := rfl
    rw [e5] at e2
    unfold wVal
    grind
  exact ⟨(ediv_unique e4 m0 m1).symm, (emod_unique e4 m0 m1).symm⟩
def divS : List LV → Option (LV × List (Bool × Bool))
  | [.v (.agg [.int .i64 x, .int .u64 y]), .v (.one (.int .i64 d))] =>
    bif (d == 0) then some (.tup [.one (.int .i64 0), .one (.bool false)], [])
    else some (.tup [.one (.int .i64 (if isI (divV (wVal x y) d) = true then divV (wVal x y) d else 0)), .one (.bool (isI (divV (wVal x y) d)))], [(isI x, true), (isU y, true), (isI d, true)])
  | _ => none
theorem sumDiv : SumOK Tryz.prog 134 (pureSum divS) := by
  refine sumwdiv.pure_re fun args v cs hF hc => ?_
  unfold divS at hF
  split at hF
  · rename_i x y d
    rcases bool_cases (d == 0) with hd | hd
    · rw [cond_t hd] at hF
      cases hF
      exact ⟨[], cond_t hd, ae_nil⟩
    · rw [cond_f hd] at hF
      cases hF
      simp only [all_tt, isI_iff, isU_iff] at hc
      obtain ⟨⟨hx0, hx1⟩, ⟨hy0, hy1⟩, ⟨hd0, hd1⟩, -⟩ := hc
      show ∃ cs', wdivT x y d = _ ∧ _
      have hdn : d ≠ 0 := by simpa using hd
      have hv0 : -170141183460469231731687303715884105728 ≤ wVal x y := by unfold wVal; omega
      have hv1 : wVal x y < 170141183460469231731687303715884105728 := by unfold wVal; omega
      have hB0 := absV_nn (wVal x y)
      have hB1 : absV (wVal x y) ≤ 170141183460469231731687303715884105728 := by unfold absV; split <;> omega
      have hb0 : 0 < absV d := by unfold absV; split <;> omega
      have hb1 : absV d ≤ 9223372036854775808 := absI hd0 hd1
      have hdef : divV (wVal x y) d = sgn (!decide (wVal x y < 0) == decide (d < 0)) (quoR (absV (wVal x y)) (absV d)) := rfl
      rw [hdef]
      unfold wdivT
      rw [cond_f hd]
      generalize absV (wVal x y) = B at *
      generalize absV d = b at *
      have hh := wHi_in B hB0 (by omega)
      have hl := wLo_in B
      obtain ⟨L1, L2⟩ := long_div (B := B) hb0
      have m0 := Int.emod_nonneg (wHi B) (show b ≠ 0 by omega)
      have m1 := Int.emod_lt_of_pos (wHi B) hb0
      have t1 : (wHi B).tmod b = wHi B % b := tmod_pos hh.1
      have t2 : (wHi B).tdiv b = wHi B / b := tdiv_pos hh.1
      have d0 : 0 ≤ wHi B / b := Int.ediv_nonneg hh.1 (by omega)
      have d1 : wHi B / b ≤ wHi B := Int.ediv_le_self _ hh.1
      have t3 : wr .u64 (wHi B / b) = wHi B / b := u64_in d0 (by omega)
      have c0 : 0 ≤ wVal (wHi B % b) (wLo B) := by unfold wVal; omega
      have q0 : 0 ≤ wVal (wHi B % b) (wLo B) / b := Int.ediv_nonneg c0 (by omega)
      have q1 : wVal (wHi B % b) (wLo B) / b < 18446744073709551616 := by
        refine Int.ediv_lt_of_lt_mul hb0 ?_
        have : (wHi B % b + 1) * 18446744073709551616 ≤ b * 18446744073709551616 := Int.mul_le_mul_of_nonneg_right (by omega) (by omega)
        unfold wVal
        rw [Int.mul_comm 18446744073709551616 b]
        omega
      have r0 := Int.emod_nonneg B (show b ≠ 0 by omega)
      have r1 := Int.emod_lt_of_pos B hb0
      have t4 : wr .u64 (b - B % b) = b - B % b := u64_in (by omega) (by omega)
      have Q0 : 0 ≤ B / b := Int.ediv_nonneg hB0 (by omega)
      have Q1 : B / b ≤ B := Int.ediv_le_self _ hB0
      have e01 : wVal 0 1 = 1 := rfl
      have t5 : (B / b + 1) % 340282366920938463463374607431768211456 = B / b + 1 := by omega
      simp only [t1, t2, t3, L1, L2, t4, e01, t5, wVal_mk]
      by_cases hr : B % b ≥ b - B % b
      · rw [cond_t (decide_eq_true hr)]
        have eq : quoR B b = B / b + 1 := if_pos hr
        rw [eq]
        refine ⟨_, rfl, ?_⟩
        simp only [all_tt, all_ff, isU_iff, isI_iff, decide_eq_true_eq, decide_eq_false_iff_not]
        repeat' apply And.intro
        all_goals first | exact ae_nil | (unfold wHi; omega) | (unfold wLo; omega) | omega
      · rw [cond_f (decide_eq_false hr)]
        have eq : quoR B b = B / b := if_neg hr
        rw [eq]
        refine ⟨_, rfl, ?_⟩
        simp only [all_tt, all_ff, isU_iff, isI_iff, decide_eq_true_eq, decide_eq_false_iff_not]
        repeat' apply And.intro
        all_goals first | exact ae_nil | (unfold wHi; omega) | (unfold wLo; omega) | omega
  · cases hF
end Go.Proofs.YthbkhoknlbomgaaGreat

/- fx: the table of what is known so far. -/
namespace Go.Proofs.YthbkhoknlbomgaaGreat
open Go.Lr
def divS2 : List LV → Option (LV × List (Bool × Bool))
  | [.v (.agg [.int .i64 x, .int .u64 y]), .v (.one (.int .i64 d))] =>
    some (.tup [.one (.int .i64 (if isI (divV (wVal x y) d) = true then divV (wVal x y) d else 0)), .one (.bool (isI (divV (wVal x y) d)))], [(d == 0, false), (isI x, true), (isU y, true), (isI d, true)])
  | _ => none
theorem sumDiv2 : SumOK Tryz.prog 134 (pureSum divS2) := by
  refine sumDiv.pure_re fun args v cs hF hc => ?_
  unfold divS2 at hF
  split at hF
  · cases hF
    exact ⟨_, cond_f (hd_of hc), tl_of hc⟩
  · cases hF
def rootS2 : List LV → Option (LV × List (Bool × Bool))
  | [.v (.agg [.int .i64 x, .int .u64 y])] =>
    some (.tup [.one (.int .i64 (if isI (rootW (wVal x y)) = true then rootW (wVal x y) else 0)), .one (.bool (isI (rootW (wVal x y))))], [(decide (x < 0), false), (isI x, true), (isU y, true)])
  | _ => none
theorem sumRoot2 : SumOK Tryz.prog 136 (pureSum rootS2) := by
  refine sumRoot.pure_re fun args v cs hF hc => ?_
  unfold rootS2 at hF
  split at hF
  · rename_i x y
    cases hF
    have h0 := hd_of hc
    refine ⟨[(isI x, true), (isU y, true)], ?_, tl_of hc⟩
    simp only [rootS, h0]
  · cases hF
def S11 : FuncId → Option SumK := more (more (more (more S8 136 (pureSum rootS2)) 134 (pureSum divS2)) 69 (accSum 58 clampF)) 70 (accSum 58 satF)
theorem sound11 : Sound Tryz.prog S11 := (((sound8.more sumRoot2).more sumDiv2).more sumClamp).more sumSat
end Go.Proofs.YthbkhoknlbomgaaGreat

/- fx: end, Sub, Abs, by every path of their runs (printed), and what they come to. -/
namespace Go.Proofs.YthbkhoknlbomgaaGreat
open Go.Lr
set_option linter.unusedVariables false
set_option linter.unusedSimpArgs false
theorem xendR1 (a : Int) (ok neg : Bool) (hb : Bool) : (runF Tryz.prog S11 Zl 2000 132 [A0, .v (.one (.int .i64 a)), .v (.one (.bool ok)), .v (.one (.bool neg))] [(0, flag 58 hb)] 1 [some true, some true]).map acc3 = some (LV.v (V1.one (At.int IntKind.i64 (-1152921504606846976))), some { ty := 58, fr := (0, 0), es := 0, cells := [At.bool true] }, [(neg, true), (!ok, true)]) := by kernel_rfl
theorem xendR2 (a : Int) (ok neg : Bool) (hb : Bool) : (runF Tryz.prog S11 Zl 2000 132 [A0, .v (.one (.int .i64 a)), .v (.one (.bool ok)), .v (.one (.bool neg))] [(0, flag 58 hb)] 1 [some true, some false]).map acc3 = some (LV.v (V1.one (At.int IntKind.i64 1152921504606846976)), some { ty := 58, fr := (0, 0), es := 0, cells := [At.bool true] }, [(neg, false), (!ok, true)]) := by kernel_rfl
theorem xendR3 (a : Int) (ok neg : Bool) (hb : Bool) : (runF Tryz.prog S11 Zl 2000 132 [A0, .v (.one (.int .i64 a)), .v (.one (.bool ok)), .v (.one (.bool neg))] [(0, flag 58 hb)] 1 [some false]).map acc3 = some (LV.v (V1.one (At.int IntKind.i64 (satV a))), some { ty := 58, fr := (0, 0), es := 0, cells := [At.bool (hb || satH a)] }, [(!ok, false)]) := by kernel_rfl
def xendT (a : Int) (ok neg : Bool) (hb : Bool) : Option (LV × Bool × List (Bool × Bool)) := 
  bif (!ok) then 
    bif (neg) then some (LV.v (V1.one (At.int IntKind.i64 (-1152921504606846976))), (true), [])
    else some (LV.v (V1.one (At.int IntKind.i64 1152921504606846976)), (true), [])
  else some (LV.v (V1.one (At.int IntKind.i64 (satV a))), (hb || satH a), [])
def xendF : List LV → Bool → Option (LV × Bool × List (Bool × Bool))
  | [.v (.one (.int .i64 a)), .v (.one (.bool ok)), .v (.one (.bool neg))], hb => xendT a ok neg hb
  | _, _ => none
theorem sumxend : SumOK Tryz.prog 132 (accSum 58 xendF) := by
  refine accSum_run (z := Zl) sound11 (own_of sound11 Tryz.func132 (by kernel_rfl)) fun args hb v h' cs hF hc => ?_
  unfold xendF at hF
  split at hF
  · rename_i a ok neg
    unfold xendT at hF
    rcases bool_cases (!ok) with h0 | h0
    · rw [cond_t h0] at hF
      rcases bool_cases (neg) with h1 | h1
      · rw [cond_t h1] at hF
        cases hF
        exact ⟨rfl, 2000, [some true, some true], _, xendR1 a ok neg hb, ae_cons (h1) (ae_cons (h0) (ae_nil))⟩
      · rw [cond_f h1] at hF
        cases hF
        exact ⟨rfl, 2000, [some true, some false], _, xendR2 a ok neg hb, ae_cons (h1) (ae_cons (h0) (ae_nil))⟩
    · rw [cond_f h0] at hF
      cases hF
      exact ⟨rfl, 2000, [some false], _, xendR3 a ok neg hb, ae_cons (h0) (ae_nil)⟩
  · cases hF
theorem xsubR1 (a b : Int) (hb : Bool) : (runF Tryz.prog S11 Zl 2000 142 [A0, .v (.one (.int .i64 a)), .v (.one (.int .i64 b))] [(0, flag 58 hb)] 1 []).map acc3 = some (LV.v (V1.one (At.int IntKind.i64 (satV (wr IntKind.i64 (satV a - satV b))))), some { ty := 58, fr := (0, 0), es := 0, cells := [At.bool (hb || satH a || satH b || satH (wr IntKind.i64 (satV a - satV b)))] }, []) := by kernel_rfl
def xsubT (a b : Int) (hb : Bool) : Option (LV × Bool × List (Bool × Bool)) := some (LV.v (V1.one (At.int IntKind.i64 (satV (wr IntKind.i64 (satV a - satV b))))), (hb || satH a || satH b || satH (wr IntKind.i64 (satV a - satV b))), [])
def xsubF : List LV → Bool → Option (LV × Bool × List (Bool × Bool))
  | [.v (.one (.int .i64 a)), .v (.one (.int .i64 b))], hb => xsubT a b hb
  | _, _ => none
theorem sumxsub : SumOK Tryz.prog 142 (accSum 58 xsubF) := by
  refine accSum_run (z := Zl) sound11 (own_of sound11 Tryz.func142 (by kernel_rfl)) fun args hb v h' cs hF hc => ?_
  unfold xsubF at hF
  split at hF
  · rename_i a b
    unfold xsubT at hF
    cases hF
    exact ⟨rfl, 2000, [], _, xsubR1 a b hb, ae_nil⟩
  · cases hF
theorem xabsR1 (a : Int) : (runF Tryz.prog S11 Zl 2000 62 [.v (.one (.int .i64 a))] [] 0 [some true, some true, some true, none]).map (fun r => (r.1, r.2.2.2)) = some (LV.v (V1.one (At.int IntKind.i64 1152921504606846976)), [(decide (a ≥ 1152921504606846976), true), (decide (a ≥ 1152921504606846976), true), (decide (a ≥ 1152921504606846976), true)]) := by kernel_rfl
theorem xabsR2 (a : Int) : (runF Tryz.prog S11 Zl 2000 62 [.v (.one (.int .i64 a))] [] 0 [some false, some false, some false, some true]).map (fun r => (r.1, r.2.2.2)) = some (LV.v (V1.one (At.int IntKind.i64 1152921504606846976)), [(decide (a ≤ -1152921504606846976), true), (decide (a ≥ 1152921504606846976), false), (decide (a ≥ 1152921504606846976), false), (decide (a ≥ 1152921504606846976), false)]) := by kernel_rfl
theorem xabsR3 (a : Int) : (runF Tryz.prog S11 Zl 2000 62 [.v (.one (.int .i64 a))] [] 0 [some false, some false, some false, some false, some true]).map (fun r => (r.1, r.2.2.2)) = some (LV.v (V1.one (At.int IntKind.i64 (wr IntKind.i64 (0 - a)))), [(decide (a < 0), true), (decide (a ≤ -1152921504606846976), false), (decide (a ≥ 1152921504606846976), false), (decide (a ≥ 1152921504606846976), false), (decide (a ≥ 1152921504606846976), false)]) := by kernel_rfl
theorem xabsR4 (a : Int) : (runF Tryz.prog S11 Zl 2000 62 [.v (.one (.int .i64 a))] [] 0 [some false, some false, some false, some false, some false]).map (fun r => (r.1, r.2.2.2)) = some (LV.v (V1.one (At.int IntKind.i64 a)), [(decide (a < 0), false), (decide (a ≤ -1152921504606846976), false), (decide (a ≥ 1152921504606846976), false), (decide (a ≥ 1152921504606846976), false), (decide (a ≥ 1152921504606846976), false)]) := by kernel_rfl
def xabsT (a : Int) : Option (LV × List (Bool × Bool)) := 
  bif (decide (a ≥ 1152921504606846976)) then some (LV.v (V1.one (At.int IntKind.i64 1152921504606846976)), [])
  else 
    bif (decide (a ≤ -1152921504606846976)) then some (LV.v (V1.one (At.int IntKind.i64 1152921504606846976)), [])
    else 
      bif (decide (a < 0)) then some (LV.v (V1.one (At.int IntKind.i64 (wr IntKind.i64 (0 - a)))), [])
      else some (LV.v (V1.one (At.int IntKind.i64 a)), [])
def xabsF : List LV → Option (LV × List (Bool × Bool))
  | [.v (.one (.int .i64 a))] => xabsT a
  | _ => none
theorem sumxabs : SumOK Tryz.prog 62 (pureSum xabsF) := by
  refine pureSum_run (z := Zl) sound11 (own_of sound11 Tryz.func62 (by kernel_rfl)) fun args v cs hF hc => ?_
  unfold xabsF at hF
  split at hF
  · rename_i a
    unfold xabsT at hF
    rcases bool_cases (decide (a ≥ 1152921504606846976)) with h0 | h0
    · rw [cond_t h0] at hF
      cases hF
      exact ⟨2000, [some true, some true, some true, none], _, xabsR1 a, ae_cons (h0) (ae_cons (h0) (ae_cons (h0) (ae_nil)))⟩
    · rw [cond_f h0] at hF
      rcases bool_cases (decide (a ≤ -1152921504606846976)) with h1 | h1
      · rw [cond_t h1] at hF
        cases hF
        exact ⟨2000, [some false, some false, some false, some true], _, xabsR2 a, ae_cons (h1) (ae_cons (h0) (ae_cons (h0) (ae_cons (h0) (ae_nil))))⟩
      · rw [cond_f h1] at hF
        rcases bool_cases (decide (a < 0)) with h2 | h2
        · rw [cond_t h2] at hF
          cases hF
          exact ⟨2000, [some false, some false, some false, some false, some true], _, xabsR3 a, ae_cons (h2) (ae_cons (h1) (ae_cons (h0) (ae_cons (h0) (ae_cons (h0) (ae_nil)))))⟩
        · rw [cond_f h2] at hF
          cases hF
          exact ⟨2000, [some false, some false, some false, some false, some false], _, xabsR4 a, ae_cons (h2) (ae_cons (h1) (ae_cons (h0) (ae_cons (h0) (ae_cons (h0) (ae_nil)))))⟩
  · cases hF
theorem sat_bd (a : Int) : -1152921504606846976 ≤ satV a ∧ satV a ≤ 1152921504606846976 := by
  unfold satV clampV; (repeat' split) <;> omega
theorem sat_in {a : Int} (h0 : -1152921504606846976 ≤ a) (h1 : a ≤ 1152921504606846976) : satV a = a := by
  unfold satV clampV; rw [if_neg (by omega), if_neg (by omega), if_neg (by omega)]
theorem satH_in {a : Int} (h0 : -1152921504606846976 ≤ a) (h1 : a ≤ 1152921504606846976) : satH a = false := by
  unfold satH clampH; simp; omega
theorem satH_out {a : Int} (h : a < -1152921504606846976 ∨ 1152921504606846976 < a) : satH a = true := by
  unfold satH clampH; simp; omega
theorem sat_lo {a : Int} (h : a < -1152921504606846976) : satV a = -1152921504606846976 := by
  unfold satV clampV; rw [if_neg (by omega), if_pos (by omega)]
theorem sat_hi {a : Int} (h : 1152921504606846976 < a) : satV a = 1152921504606846976 := by
  unfold satV clampV; rw [if_neg (by omega), if_neg (by omega), if_pos (by omega)]
def endV (a : Int) (ok neg : Bool) : Int := bif ok then satV a else bif neg then -1152921504606846976 else 1152921504606846976
def endH (a : Int) (ok : Bool) : Bool := bif ok then satH a else true
def endS : List LV → Bool → Option (LV × Bool × List (Bool × Bool))
  | [.v (.one (.int .i64 a)), .v (.one (.bool ok)), .v (.one (.bool neg))], hb => some (I (endV a ok neg), hb || endH a ok, [])
  | _, _ => none
theorem sumEnd : SumOK Tryz.prog 132 (accSum 58 endS) := by
  refine sumxend.acc_re fun args hb v h' cs hF _ => ?_
  unfold endS at hF
  split at hF
  · rename_i a ok neg
    cases hF
    refine ⟨[], ?_, ae_nil⟩
    show xendT a ok neg hb = _
    unfold xendT
    cases ok <;> cases neg <;> simp [endV, endH, I]
  · cases hF
def subV (a b : Int) : Int := satV (satV a - satV b)
def subH (a b : Int) : Bool := satH a || (satH b || satH (satV a - satV b))
def subS : List LV → Bool → Option (LV × Bool × List (Bool × Bool))
  | [.v (.one (.int .i64 a)), .v (.one (.int .i64 b))], hb => some (I (subV a b), hb || subH a b, [])
  | _, _ => none
theorem sumSub : SumOK Tryz.prog 142 (accSum 58 subS) := by
  refine sumxsub.acc_re fun args hb v h' cs hF _ => ?_
  unfold subS at hF
  split at hF
  · rename_i a b
    cases hF
    refine ⟨[], ?_, ae_nil⟩
    show xsubT a b hb = _
    have ha := sat_bd a
    have hb' := sat_bd b
    have e : wr .i64 (satV a - satV b) = satV a - satV b := w64_in (by omega) (by omega)
    unfold xsubT
    rw [e]
    simp [subV, subH, I, Bool.or_assoc]
  · cases hF
def fabsV (a : Int) : Int := if a ≥ 1152921504606846976 then 1152921504606846976 else if a ≤ -1152921504606846976 then 1152921504606846976 else if a < 0 then -a else a
def fabsS : List LV → Option (LV × List (Bool × Bool))
  | [.v (.one (.int .i64 a))] => some (I (fabsV a), [])
  | _ => none
theorem sumFabs : SumOK Tryz.prog 62 (pureSum fabsS) := by
  refine sumxabs.pure_re fun args v cs hF _ => ?_
  unfold fabsS at hF
  split at hF
  · rename_i a
    cases hF
    refine ⟨[], ?_, ae_nil⟩
    show xabsT a = _
    unfold xabsT fabsV
    by_cases h1 : a ≥ 1152921504606846976
    · rw [cond_t (decide_eq_true h1), if_pos h1]; rfl
    · rw [cond_f (decide_eq_false h1), if_neg h1]
      by_cases h2 : a ≤ -1152921504606846976
      · rw [cond_t (decide_eq_true h2), if_pos h2]; rfl
      · rw [cond_f (decide_eq_false h2), if_neg h2]
        by_cases h3 : a < 0
        · rw [cond_t (decide_eq_true h3), if_pos h3]
          have e : wr .i64 (0 - a) = -a := by rw [wr_i]; unfold w64; omega
          rw [e]; rfl
        · rw [cond_f (decide_eq_false h3), if_neg h3]; rfl
  · cases hF
def S12 : FuncId → Option SumK := more (more (more S11 132 (accSum 58 endS)) 142 (accSum 58 subS)) 62 (pureSum fabsS)
theorem sound12 : Sound Tryz.prog S12 := ((sound11.more sumEnd).more sumSub).more sumFabs
end Go.Proofs.YthbkhoknlbomgaaGreat

/- fx: round, by, by every path of their runs (printed), and what they come to. -/
namespace Go.Proofs.YthbkhoknlbomgaaGreat
open Go.Lr
set_option linter.unusedVariables false
set_option linter.unusedSimpArgs false
theorem xroundR1 (x y s : Int) (hb : Bool) : (runF Tryz.prog S12 Zl 2000 71 [A0, .v (.agg [.int .i64 x, .int .u64 y]), .v (.one (.int .i64 s))] [(0, flag 58 hb)] 1 [some true, some true, some true, none]).map acc3 = some (LV.v (V1.one (At.int IntKind.i64 0)), some { ty := 58, fr := (0, 0), es := 0, cells := [At.bool true] }, [(decide (s < 0), true), (decide (s < 0), true), (decide (s < 0), true)]) := by kernel_rfl
theorem xroundR2 (x y s : Int) (hb : Bool) : (runF Tryz.prog S12 Zl 2000 71 [A0, .v (.agg [.int .i64 x, .int .u64 y]), .v (.one (.int .i64 s))] [(0, flag 58 hb)] 1 [some false, some false, some false, some true]).map acc3 = some (LV.v (V1.one (At.int IntKind.i64 0)), some { ty := 58, fr := (0, 0), es := 0, cells := [At.bool true] }, [(decide (s > 120), true), (decide (s < 0), false), (decide (s < 0), false), (decide (s < 0), false)]) := by kernel_rfl
theorem xroundR3 (x y s : Int) (hb : Bool) : (runF Tryz.prog S12 Zl 2000 71 [A0, .v (.agg [.int .i64 x, .int .u64 y]), .v (.one (.int .i64 s))] [(0, flag 58 hb)] 1 [some false, some false, some false, some false]).map acc3 = some (LV.v (V1.one (At.int IntKind.i64 (endV (if isI (rndV (wVal x y) s.toNat) = true then rndV (wVal x y) s.toNat else 0) (isI (rndV (wVal x y) s.toNat)) (decide (x < 0))))), some { ty := 58, fr := (0, 0), es := 0, cells := [At.bool (hb || endH (if isI (rndV (wVal x y) s.toNat) = true then rndV (wVal x y) s.toNat else 0) (isI (rndV (wVal x y) s.toNat)))] }, [(isI x, true), (isU y, true), (decide (0 ≤ s) && decide (s ≤ 126), true), (decide (s > 120), false), (decide (s < 0), false), (decide (s < 0), false), (decide (s < 0), false)]) := by kernel_rfl
def xroundT (x y s : Int) (hb : Bool) : Option (LV × Bool × List (Bool × Bool)) := 
  bif (decide (s < 0)) then some (LV.v (V1.one (At.int IntKind.i64 0)), (true), [])
  else 
    bif (decide (s > 120)) then some (LV.v (V1.one (At.int IntKind.i64 0)), (true), [])
    else some (LV.v (V1.one (At.int IntKind.i64 (endV (if isI (rndV (wVal x y) s.toNat) = true then rndV (wVal x y) s.toNat else 0) (isI (rndV (wVal x y) s.toNat)) (decide (x < 0))))), (hb || endH (if isI (rndV (wVal x y) s.toNat) = true then rndV (wVal x y) s.toNat else 0) (isI (rndV (wVal x y) s.toNat))), [(isI x, true), (isU y, true), (decide (0 ≤ s) && decide (s ≤ 126), true)])
def xroundF : List LV → Bool → Option (LV × Bool × List (Bool × Bool))
  | [.v (.agg [.int .i64 x, .int .u64 y]), .v (.one (.int .i64 s))], hb => xroundT x y s hb
  | _, _ => none
theorem sumxround : SumOK Tryz.prog 71 (accSum 58 xroundF) := by
  refine accSum_run (z := Zl) sound12 (own_of sound12 Tryz.func71 (by kernel_rfl)) fun args hb v h' cs hF hc => ?_
  unfold xroundF at hF
  split at hF
  · rename_i x y s
    unfold xroundT at hF
    rcases bool_cases (decide (s < 0)) with h0 | h0
    · rw [cond_t h0] at hF
      cases hF
      exact ⟨rfl, 2000, [some true, some true, some true, none], _, xroundR1 x y s hb, ae_cons (h0) (ae_cons (h0) (ae_cons (h0) (ae_nil)))⟩
    · rw [cond_f h0] at hF
      rcases bool_cases (decide (s > 120)) with h1 | h1
      · rw [cond_t h1] at hF
        cases hF
        exact ⟨rfl, 2000, [some false, some false, some false, some true], _, xroundR2 x y s hb, ae_cons (h1) (ae_cons (h0) (ae_cons (h0) (ae_cons (h0) (ae_nil))))⟩
      · rw [cond_f h1] at hF
        cases hF
        exact ⟨rfl, 2000, [some false, some false, some false, some false], _, xroundR3 x y s hb, ae_cons (hd_of (hc)) (ae_cons (hd_of (tl_of (hc))) (ae_cons (hd_of (tl_of (tl_of (hc)))) (ae_cons (h1) (ae_cons (h0) (ae_cons (h0) (ae_cons (h0) (ae_nil)))))))⟩
  · cases hF
theorem xbyR1 (x y d : Int) (hb : Bool) : (runF Tryz.prog S12 Zl 2000 72 [A0, .v (.agg [.int .i64 x, .int .u64 y]), .v (.one (.int .i64 d))] [(0, flag 58 hb)] 1 [some true, some true]).map acc3 = some (LV.v (V1.one (At.int IntKind.i64 0)), some { ty := 58, fr := (0, 0), es := 0, cells := [At.bool true] }, [(x == 0 && (y == 0 && true), true), (d == 0, true)]) := by kernel_rfl
theorem xbyR2 (x y d : Int) (hb : Bool) : (runF Tryz.prog S12 Zl 2000 72 [A0, .v (.agg [.int .i64 x, .int .u64 y]), .v (.one (.int .i64 d))] [(0, flag 58 hb)] 1 [some true, some false, some true]).map acc3 = some (LV.v (V1.one (At.int IntKind.i64 (-1152921504606846976))), some { ty := 58, fr := (0, 0), es := 0, cells := [At.bool true] }, [(decide (x < 0), true), (x == 0 && (y == 0 && true), false), (d == 0, true)]) := by kernel_rfl
theorem xbyR3 (x y d : Int) (hb : Bool) : (runF Tryz.prog S12 Zl 2000 72 [A0, .v (.agg [.int .i64 x, .int .u64 y]), .v (.one (.int .i64 d))] [(0, flag 58 hb)] 1 [some true, some false, some false]).map acc3 = some (LV.v (V1.one (At.int IntKind.i64 1152921504606846976)), some { ty := 58, fr := (0, 0), es := 0, cells := [At.bool true] }, [(decide (x < 0), false), (x == 0 && (y == 0 && true), false), (d == 0, true)]) := by kernel_rfl
theorem xbyR4 (x y d : Int) (hb : Bool) : (runF Tryz.prog S12 Zl 2000 72 [A0, .v (.agg [.int .i64 x, .int .u64 y]), .v (.one (.int .i64 d))] [(0, flag 58 hb)] 1 [some false]).map acc3 = some (LV.v (V1.one (At.int IntKind.i64 (endV (if isI (divV (wVal x y) d) = true then divV (wVal x y) d else 0) (isI (divV (wVal x y) d)) !decide (x < 0) == decide (d < 0)))), some { ty := 58, fr := (0, 0), es := 0, cells := [At.bool (hb || endH (if isI (divV (wVal x y) d) = true then divV (wVal x y) d else 0) (isI (divV (wVal x y) d)))] }, [(d == 0, false), (isI x, true), (isU y, true), (isI d, true), (d == 0, false)]) := by kernel_rfl
def xbyT (x y d : Int) (hb : Bool) : Option (LV × Bool × List (Bool × Bool)) := 
  bif (d == 0) then 
    bif (x == 0 && (y == 0 && true)) then some (LV.v (V1.one (At.int IntKind.i64 0)), (true), [])
    else 
      bif (decide (x < 0)) then some (LV.v (V1.one (At.int IntKind.i64 (-1152921504606846976))), (true), [])
      else some (LV.v (V1.one (At.int IntKind.i64 1152921504606846976)), (true), [])
  else some (LV.v (V1.one (At.int IntKind.i64 (endV (if isI (divV (wVal x y) d) = true then divV (wVal x y) d else 0) (isI (divV (wVal x y) d)) !decide (x < 0) == decide (d < 0)))), (hb || endH (if isI (divV (wVal x y) d) = true then divV (wVal x y) d else 0) (isI (divV (wVal x y) d))), [(isI x, true), (isU y, true), (isI d, true)])
def xbyF : List LV → Bool → Option (LV × Bool × List (Bool × Bool))
  | [.v (.agg [.int .i64 x, .int .u64 y]), .v (.one (.int .i64 d))], hb => xbyT x y d hb
  | _, _ => none
theorem sumxby : SumOK Tryz.prog 72 (accSum 58 xbyF) := by
  refine accSum_run (z := Zl) sound12 (own_of sound12 Tryz.func72 (by kernel_rfl)) fun args hb v h' cs hF hc => ?_
  unfold xbyF at hF
  split at hF
  · rename_i x y d
    unfold xbyT at hF
    rcases bool_cases (d == 0) with h0 | h0
    · rw [cond_t h0] at hF
      rcases bool_cases (x == 0 && (y == 0 && true)) with h1 | h1
      · rw [cond_t h1] at hF
        cases hF
        exact ⟨rfl, 2000, [some true, some true], _, xbyR1 x y d hb, ae_cons (h1) (ae_cons (h0) (ae_nil))⟩
      · rw [cond_f h1] at hF
        rcases bool_cases (decide (x < 0)) with h2 | h2
        · rw [cond_t h2] at hF
          cases hF
          exact ⟨rfl, 2000, [some true, some false, some true], _, xbyR2 x y d hb, ae_cons (h2) (ae_cons (h1) (ae_cons (h0) (ae_nil)))⟩
        · rw [cond_f h2] at hF
          cases hF
          exact ⟨rfl, 2000, [some true, some false, some false], _, xbyR3 x y d hb, ae_cons (h2) (ae_cons (h1) (ae_cons (h0) (ae_nil)))⟩
    · rw [cond_f h0] at hF
      cases hF
      exact ⟨rfl, 2000, [some false], _, xbyR4 x y d hb, ae_cons (h0) (ae_cons (hd_of (hc)) (ae_cons (hd_of (tl_of (hc))) (ae_cons (hd_of (tl_of (tl_of (hc)))) (ae_cons (h0) (ae_nil)))))⟩
  · cases hF
theorem endV_of {v : Int} {neg : Bool} (h0 : v < -9223372036854775808 → neg = true) (h1 : 9223372036854775808 ≤ v → neg = false) : endV (if isI v = true then v else 0) (isI v) neg = satV v := by
  unfold endV
  by_cases h : isI v = true
  · rw [h]; simp
  · have h' : isI v = false := by simpa using h
    rw [h']
    have hv : ¬ (-9223372036854775808 ≤ v ∧ v < 9223372036854775808) := fun hh => h (isI_iff.2 hh)
    by_cases hn : v < 0
    · rw [h0 (by omega), sat_lo (a := v) (by omega)]; rfl
    · rw [h1 (by omega), sat_hi (a := v) (by omega)]; rfl
theorem endH_of (v : Int) : endH (if isI v = true then v else 0) (isI v) = satH v := by
  unfold endH
  by_cases h : isI v = true
  · rw [h]; simp
  · have h' : isI v = false := by simpa using h
    rw [h']
    have hv : ¬ (-9223372036854775808 ≤ v ∧ v < 9223372036854775808) := fun hh => h (isI_iff.2 hh)
    rw [satH_out (a := v) (by omega)]; rfl
theorem sgn_t {x : Int} : sgn true x = -x := rfl
theorem sgn_f {x : Int} : sgn false x = x := rfl
theorem rnd_nn (w : Int) (s : Nat) : 0 ≤ (absV w + halfP s) / pow2 s := Int.ediv_nonneg (by have := absV_nn w; have := (halfP_le s).1; omega) (by have := pow2_pos s; omega)
theorem quo_nn {a b : Int} (ha : 0 ≤ a) (hb : 0 ≤ b) : 0 ≤ quoR a b := by
  have := Int.ediv_nonneg ha hb
  unfold quoR; split <;> omega
theorem end_rnd (w : Int) (s : Nat) (n : Bool) (hn : n = decide (w < 0)) : endV (if isI (rndV w s) = true then rndV w s else 0) (isI (rndV w s)) n = satV (rndV w s) := by
  have h := rnd_nn w s
  subst hn
  refine endV_of (fun h1 => ?_) (fun h1 => ?_) <;> unfold rndV at h1 <;> cases hw : decide (w < 0) <;> rw [hw] at h1 <;> simp only [sgn_t, sgn_f] at h1 <;> first | rfl | (exfalso; omega)
theorem end_div (w d : Int) (n : Bool) (hn : n = !(decide (w < 0) == decide (d < 0))) : endV (if isI (divV w d) = true then divV w d else 0) (isI (divV w d)) n = satV (divV w d) := by
  have h := quo_nn (absV_nn w) (absV_nn d)
  subst hn
  refine endV_of (fun h1 => ?_) (fun h1 => ?_) <;> unfold divV at h1 <;> cases hw : !(decide (w < 0) == decide (d < 0)) <;> rw [hw] at h1 <;> simp only [sgn_t, sgn_f] at h1 <;> first | rfl | (exfalso; omega)
def rndS (w s : Int) : Int := if s < 0 then 0 else if s > 120 then 0 else satV (rndV w s.toNat)
def rndH (w s : Int) : Bool := decide (s < 0) || (decide (s > 120) || satH (rndV w s.toNat))
def froundS : List LV → Bool → Option (LV × Bool × List (Bool × Bool))
  | [.v (.agg [.int .i64 x, .int .u64 y]), .v (.one (.int .i64 s))], hb => some (I (rndS (wVal x y) s), hb || rndH (wVal x y) s, [(isI x, true), (isU y, true)])
  | _, _ => none
theorem wVal_neg {x y : Int} (h0 : 0 ≤ y) (h1 : y < 18446744073709551616) : decide (x < 0) = decide (wVal x y < 0) := by
  unfold wVal; congr 1; apply propext; constructor <;> intro h <;> omega
theorem sumFround : SumOK Tryz.prog 71 (accSum 58 froundS) := by
  refine sumxround.acc_re fun args hb v h' cs hF hc => ?_
  unfold froundS at hF
  split at hF
  · rename_i x y s
    cases hF
    show ∃ cs', xroundT x y s hb = _ ∧ _
    simp only [all_tt, isI_iff, isU_iff] at hc
    obtain ⟨⟨hx0, hx1⟩, ⟨hy0, hy1⟩, -⟩ := hc
    unfold xroundT rndS rndH
    by_cases h1 : s < 0
    · rw [cond_t (decide_eq_true h1), if_pos h1, decide_eq_true h1]
      exact ⟨_, by simp [I], ae_nil⟩
    · rw [cond_f (decide_eq_false h1), if_neg h1, decide_eq_false h1]
      by_cases h2 : s > 120
      · rw [cond_t (decide_eq_true h2), if_pos h2, decide_eq_true h2]
        exact ⟨_, by simp [I], ae_nil⟩
      · rw [cond_f (decide_eq_false h2), if_neg h2, decide_eq_false h2]
        rw [end_rnd _ _ _ (wVal_neg hy0 hy1), endH_of]
        refine ⟨[(isI x, true), (isU y, true), (decide (0 ≤ s) && decide (s ≤ 126), true)], by simp only [I, Bool.false_or], ?_⟩
        simp only [all_tt, isI_iff, isU_iff, Bool.and_eq_true, decide_eq_true_eq]
        exact ⟨⟨hx0, hx1⟩, ⟨hy0, hy1⟩, ⟨by omega, by omega⟩, ae_nil⟩
  · cases hF
def byV (w d : Int) : Int := if d = 0 then (if w = 0 then 0 else if w < 0 then -1152921504606846976 else 1152921504606846976) else satV (divV w d)
def byH (w d : Int) : Bool := d == 0 || satH (divV w d)
def fbyS : List LV → Bool → Option (LV × Bool × List (Bool × Bool))
  | [.v (.agg [.int .i64 x, .int .u64 y]), .v (.one (.int .i64 d))], hb => some (I (byV (wVal x y) d), hb || byH (wVal x y) d, [(isI x, true), (isU y, true), (isI d, true)])
  | _, _ => none
theorem sumFby : SumOK Tryz.prog 72 (accSum 58 fbyS) := by
  refine sumxby.acc_re fun args hb v h' cs hF hc => ?_
  unfold fbyS at hF
  split at hF
  · rename_i x y d
    cases hF
    show ∃ cs', xbyT x y d hb = _ ∧ _
    have hc' := hc
    simp only [all_tt, isI_iff, isU_iff] at hc
    obtain ⟨⟨hx0, hx1⟩, ⟨hy0, hy1⟩, ⟨hd0, hd1⟩, -⟩ := hc
    unfold xbyT byV byH
    by_cases h1 : d = 0
    · rw [cond_t (by simpa using h1), if_pos h1]
      have hd : (d == 0) = true := by simpa using h1
      rw [hd]
      by_cases h2 : wVal x y = 0
      · have hx : x = 0 := by unfold wVal at h2; omega
        have hy : y = 0 := by unfold wVal at h2; omega
        rw [cond_t (by simp [hx, hy]), if_pos h2]
        exact ⟨_, by simp [I], ae_nil⟩
      · rw [cond_f (by by_cases hx : x = 0 <;> by_cases hy : y = 0 <;> simp [hx, hy]; exact absurd (by rw [hx, hy]; rfl) h2), if_neg h2]
        by_cases h3 : x < 0
        · rw [cond_t (by simpa using h3), if_pos (by unfold wVal; omega)]
          exact ⟨_, by simp [I], ae_nil⟩
        · rw [cond_f (by simpa using h3), if_neg (by unfold wVal; omega)]
          exact ⟨_, by simp [I], ae_nil⟩
    · have hd : (d == 0) = false := by simpa using h1
      rw [cond_f hd, if_neg h1, hd]
      rw [end_div _ _ _ (by rw [wVal_neg hy0 hy1]), endH_of]
      exact ⟨[(isI x, true), (isU y, true), (isI d, true)], by simp only [I, Bool.false_or], hc'⟩
  · cases hF
def S13 : FuncId → Option SumK := more (more S12 71 (accSum 58 froundS)) 72 (accSum 58 fbyS)
theorem sound13 : Sound Tryz.prog S13 := (sound12.more sumFround).more sumFby
end Go.Proofs.YthbkhoknlbomgaaGreat

/- fx: Mul, Div, MulDiv, by every path of their runs (printed), and what they come to. -/
namespace Go.Proofs.YthbkhoknlbomgaaGreat
open Go.Lr
set_option linter.unusedVariables false
set_option linter.unusedSimpArgs false
theorem xmulR1 (a b s : Int) (hb : Bool) : (runF Tryz.prog S13 Zl 2000 39 [A0, .v (.one (.int .i64 a)), .v (.one (.int .i64 b)), .v (.one (.int .i64 s))] [(0, flag 58 hb)] 1 []).map acc3 = some (LV.v (V1.one (At.int IntKind.i64 (rndS (wVal (wHi (satV a * satV b)) (wLo (satV a * satV b))) s))), some { ty := 58, fr := (0, 0), es := 0, cells := [At.bool (hb || satH a || satH b || rndH (wVal (wHi (satV a * satV b)) (wLo (satV a * satV b))) s)] }, [(isI (wHi (satV a * satV b)), true), (isU (wLo (satV a * satV b)), true), (isI (satV a), true), (isI (satV b), true)]) := by kernel_rfl
def xmulT (a b s : Int) (hb : Bool) : Option (LV × Bool × List (Bool × Bool)) := some (LV.v (V1.one (At.int IntKind.i64 (rndS (wVal (wHi (satV a * satV b)) (wLo (satV a * satV b))) s))), (hb || satH a || satH b || rndH (wVal (wHi (satV a * satV b)) (wLo (satV a * satV b))) s), [(isI (wHi (satV a * satV b)), true), (isU (wLo (satV a * satV b)), true), (isI (satV a), true), (isI (satV b), true)])
def xmulF : List LV → Bool → Option (LV × Bool × List (Bool × Bool))
  | [.v (.one (.int .i64 a)), .v (.one (.int .i64 b)), .v (.one (.int .i64 s))], hb => xmulT a b s hb
  | _, _ => none
theorem sumxmul : SumOK Tryz.prog 39 (accSum 58 xmulF) := by
  refine accSum_run (z := Zl) sound13 (own_of sound13 Tryz.func39 (by kernel_rfl)) fun args hb v h' cs hF hc => ?_
  unfold xmulF at hF
  split at hF
  · rename_i a b s
    unfold xmulT at hF
    cases hF
    exact ⟨rfl, 2000, [], _, xmulR1 a b s hb, ae_cons (hd_of (hc)) (ae_cons (hd_of (tl_of (hc))) (ae_cons (hd_of (tl_of (tl_of (hc)))) (ae_cons (hd_of (tl_of (tl_of (tl_of (hc))))) (ae_nil))))⟩
  · cases hF
theorem xdivR1 (a b s : Int) (hb : Bool) : (runF Tryz.prog S13 Zl 2000 44 [A0, .v (.one (.int .i64 a)), .v (.one (.int .i64 b)), .v (.one (.int .i64 s))] [(0, flag 58 hb)] 1 [some true, some true, some true, none]).map acc3 = some (LV.v (V1.one (At.int IntKind.i64 0)), some { ty := 58, fr := (0, 0), es := 0, cells := [At.bool true] }, [(decide (s < 0), true), (decide (s < 0), true), (decide (s < 0), true)]) := by kernel_rfl
theorem xdivR2 (a b s : Int) (hb : Bool) : (runF Tryz.prog S13 Zl 2000 44 [A0, .v (.one (.int .i64 a)), .v (.one (.int .i64 b)), .v (.one (.int .i64 s))] [(0, flag 58 hb)] 1 [some false, some false, some false, some true]).map acc3 = some (LV.v (V1.one (At.int IntKind.i64 0)), some { ty := 58, fr := (0, 0), es := 0, cells := [At.bool true] }, [(decide (s > 66), true), (decide (s < 0), false), (decide (s < 0), false), (decide (s < 0), false)]) := by kernel_rfl
theorem xdivR3 (a b s : Int) (hb : Bool) : (runF Tryz.prog S13 Zl 2000 44 [A0, .v (.one (.int .i64 a)), .v (.one (.int .i64 b)), .v (.one (.int .i64 s))] [(0, flag 58 hb)] 1 [some false, some false, some false, some false]).map acc3 = some (LV.v (V1.one (At.int IntKind.i64 (byV (wVal (wHi (satV a * pow2 s.toNat)) (wLo (satV a * pow2 s.toNat))) (satV b)))), some { ty := 58, fr := (0, 0), es := 0, cells := [At.bool (hb || satH a || satH b || byH (wVal (wHi (satV a * pow2 s.toNat)) (wLo (satV a * pow2 s.toNat))) (satV b))] }, [(isI (wHi (satV a * pow2 s.toNat)), true), (isU (wLo (satV a * pow2 s.toNat)), true), (isI (satV b), true), (isI (satV a), true), (decide (0 ≤ s) && decide (s ≤ 127), true), (decide (absV (satV a) * pow2 s.toNat < 170141183460469231731687303715884105728), true), (decide (s > 66), false), (decide (s < 0), false), (decide (s < 0), false), (decide (s < 0), false)]) := by kernel_rfl
def xdivT (a b s : Int) (hb : Bool) : Option (LV × Bool × List (Bool × Bool)) := 
  bif (decide (s < 0)) then some (LV.v (V1.one (At.int IntKind.i64 0)), (true), [])
  else 
    bif (decide (s > 66)) then some (LV.v (V1.one (At.int IntKind.i64 0)), (true), [])
    else some (LV.v (V1.one (At.int IntKind.i64 (byV (wVal (wHi (satV a * pow2 s.toNat)) (wLo (satV a * pow2 s.toNat))) (satV b)))), (hb || satH a || satH b || byH (wVal (wHi (satV a * pow2 s.toNat)) (wLo (satV a * pow2 s.toNat))) (satV b)), [(isI (wHi (satV a * pow2 s.toNat)), true), (isU (wLo (satV a * pow2 s.toNat)), true), (isI (satV b), true), (isI (satV a), true), (decide (0 ≤ s) && decide (s ≤ 127), true), (decide (absV (satV a) * pow2 s.toNat < 170141183460469231731687303715884105728), true)])
def xdivF : List LV → Bool → Option (LV × Bool × List (Bool × Bool))
  | [.v (.one (.int .i64 a)), .v (.one (.int .i64 b)), .v (.one (.int .i64 s))], hb => xdivT a b s hb
  | _, _ => none
theorem sumxdiv : SumOK Tryz.prog 44 (accSum 58 xdivF) := by
  refine accSum_run (z := Zl) sound13 (own_of sound13 Tryz.func44 (by kernel_rfl)) fun args hb v h' cs hF hc => ?_
  unfold xdivF at hF
  split at hF
  · rename_i a b s
    unfold xdivT at hF
    rcases bool_cases (decide (s < 0)) with h0 | h0
    · rw [cond_t h0] at hF
      cases hF
      exact ⟨rfl, 2000, [some true, some true, some true, none], _, xdivR1 a b s hb, ae_cons (h0) (ae_cons (h0) (ae_cons (h0) (ae_nil)))⟩
    · rw [cond_f h0] at hF
      rcases bool_cases (decide (s > 66)) with h1 | h1
      · rw [cond_t h1] at hF
        cases hF
        exact ⟨rfl, 2000, [some false, some false, some false, some true], _, xdivR2 a b s hb, ae_cons (h1) (ae_cons (h0) (ae_cons (h0) (ae_cons (h0) (ae_nil))))⟩
      · rw [cond_f h1] at hF
        cases hF
        exact ⟨rfl, 2000, [some false, some false, some false, some false], _, xdivR3 a b s hb, ae_cons (hd_of (hc)) (ae_cons (hd_of (tl_of (hc))) (ae_cons (hd_of (tl_of (tl_of (hc)))) (ae_cons (hd_of (tl_of (tl_of (tl_of (hc))))) (ae_cons (hd_of (tl_of (tl_of (tl_of (tl_of (hc)))))) (ae_cons (hd_of (tl_of (tl_of (tl_of (tl_of (tl_of (hc))))))) (ae_cons (h1) (ae_cons (h0) (ae_cons (h0) (ae_cons (h0) (ae_nil))))))))))⟩
  · cases hF
theorem xmuldivR1 (a b d : Int) (hb : Bool) : (runF Tryz.prog S13 Zl 2000 40 [A0, .v (.one (.int .i64 a)), .v (.one (.int .i64 b)), .v (.one (.int .i64 d))] [(0, flag 58 hb)] 1 []).map acc3 = some (LV.v (V1.one (At.int IntKind.i64 (byV (wVal (wHi (satV a * satV b)) (wLo (satV a * satV b))) (satV d)))), some { ty := 58, fr := (0, 0), es := 0, cells := [At.bool (hb || satH a || satH b || satH d || byH (wVal (wHi (satV a * satV b)) (wLo (satV a * satV b))) (satV d))] }, [(isI (wHi (satV a * satV b)), true), (isU (wLo (satV a * satV b)), true), (isI (satV d), true), (isI (satV a), true), (isI (satV b), true)]) := by kernel_rfl
def xmuldivT (a b d : Int) (hb : Bool) : Option (LV × Bool × List (Bool × Bool)) := some (LV.v (V1.one (At.int IntKind.i64 (byV (wVal (wHi (satV a * satV b)) (wLo (satV a * satV b))) (satV d)))), (hb || satH a || satH b || satH d || byH (wVal (wHi (satV a * satV b)) (wLo (satV a * satV b))) (satV d)), [(isI (wHi (satV a * satV b)), true), (isU (wLo (satV a * satV b)), true), (isI (satV d), true), (isI (satV a), true), (isI (satV b), true)])
def xmuldivF : List LV → Bool → Option (LV × Bool × List (Bool × Bool))
  | [.v (.one (.int .i64 a)), .v (.one (.int .i64 b)), .v (.one (.int .i64 d))], hb => xmuldivT a b d hb
  | _, _ => none
theorem sumxmuldiv : SumOK Tryz.prog 40 (accSum 58 xmuldivF) := by
  refine accSum_run (z := Zl) sound13 (own_of sound13 Tryz.func40 (by kernel_rfl)) fun args hb v h' cs hF hc => ?_
  unfold xmuldivF at hF
  split at hF
  · rename_i a b d
    unfold xmuldivT at hF
    cases hF
    exact ⟨rfl, 2000, [], _, xmuldivR1 a b d hb, ae_cons (hd_of (hc)) (ae_cons (hd_of (tl_of (hc))) (ae_cons (hd_of (tl_of (tl_of (hc)))) (ae_cons (hd_of (tl_of (tl_of (tl_of (hc))))) (ae_cons (hd_of (tl_of (tl_of (tl_of (tl_of (hc)))))) (ae_nil)))))⟩
  · cases hF
theorem absV_sat (a : Int) : absV (satV a) ≤ 1152921504606846976 := by have := sat_bd a; unfold absV; split <;> omega
theorem satsat (a b : Int) : -1329227995784915872903807060280344576 ≤ satV a * satV b ∧ satV a * satV b ≤ 1329227995784915872903807060280344576 := prod_lt (absV_sat a) (absV_sat b)
theorem isI_sat (a : Int) : isI (satV a) = true := by have := sat_bd a; exact isI_iff.2 ⟨by omega, by omega⟩
theorem isI_hi {v : Int} (h0 : -170141183460469231731687303715884105728 ≤ v) (h1 : v < 170141183460469231731687303715884105728) : isI (wHi v) = true := isI_iff.2 (wHi_inI v h0 h1)
theorem isI_hi_ss (a b : Int) : isI (wHi (satV a * satV b)) = true := by have := satsat a b; exact isI_hi (by omega) (by omega)
def mulV (a b s : Int) : Int := rndS (satV a * satV b) s
def mulH (a b s : Int) : Bool := satH a || (satH b || rndH (satV a * satV b) s)
def fmulS : List LV → Bool → Option (LV × Bool × List (Bool × Bool))
  | [.v (.one (.int .i64 a)), .v (.one (.int .i64 b)), .v (.one (.int .i64 s))], hb => some (I (mulV a b s), hb || mulH a b s, [])
  | _, _ => none
theorem sumFmul : SumOK Tryz.prog 39 (accSum 58 fmulS) := by
  refine sumxmul.acc_re fun args hb v h' cs hF _ => ?_
  unfold fmulS at hF
  split at hF
  · rename_i a b s
    cases hF
    show ∃ cs', xmulT a b s hb = _ ∧ _
    unfold xmulT
    rw [wVal_mk]
    refine ⟨[(isI (wHi (satV a * satV b)), true), (isU (wLo (satV a * satV b)), true), (isI (satV a), true), (isI (satV b), true)], by simp only [I, mulV, mulH, Bool.or_assoc], ?_⟩
    simp only [isI_hi_ss, isU_lo, isI_sat]
    simp
  · cases hF
def divPV (a b s : Int) : Int := if s < 0 then 0 else if s > 66 then 0 else byV (satV a * pow2 s.toNat) (satV b)
def divPH (a b s : Int) : Bool := satH a || (satH b || (decide (s < 0) || (decide (s > 66) || byH (satV a * pow2 s.toNat) (satV b))))
def fdivS : List LV → Bool → Option (LV × Bool × List (Bool × Bool))
  | [.v (.one (.int .i64 a)), .v (.one (.int .i64 b)), .v (.one (.int .i64 s))], hb => some (I (divPV a b s), hb || divPH a b s, [])
  | _, _ => none
theorem sumFdiv : SumOK Tryz.prog 44 (accSum 58 fdivS) := by
  refine sumxdiv.acc_re fun args hb v h' cs hF _ => ?_
  unfold fdivS at hF
  split at hF
  · rename_i a b s
    cases hF
    show ∃ cs', xdivT a b s hb = _ ∧ _
    unfold xdivT divPV divPH
    by_cases h1 : s < 0
    · rw [cond_t (decide_eq_true h1), if_pos h1, decide_eq_true h1]
      exact ⟨[], by simp [I], ae_nil⟩
    · rw [cond_f (decide_eq_false h1), if_neg h1, decide_eq_false h1]
      by_cases h2 : s > 66
      · rw [cond_t (decide_eq_true h2), if_pos h2, decide_eq_true h2]
        exact ⟨[], by simp [I], ae_nil⟩
      · rw [cond_f (decide_eq_false h2), if_neg h2, decide_eq_false h2]
        have hp := pow2_pos s.toNat
        have hp1 : pow2 s.toNat ≤ 73786976294838206464 := pow2_le (n := 66) _ (by omega) (by decide)
        have ha := absV_sat a
        have h0 := absV_nn (satV a)
        have hq : absV (pow2 s.toNat) ≤ 73786976294838206464 := by rw [absV_pos (by omega)]; exact hp1
        have hm := prod_lt ha hq
        have hn : absV (satV a) * pow2 s.toNat ≤ 1152921504606846976 * 73786976294838206464 := Int.mul_le_mul ha hp1 (by omega) (by omega)
        rw [wVal_mk]
        refine ⟨[(isI (wHi (satV a * pow2 s.toNat)), true), (isU (wLo (satV a * pow2 s.toNat)), true), (isI (satV b), true), (isI (satV a), true), (decide (0 ≤ s) && decide (s ≤ 127), true), (decide (absV (satV a) * pow2 s.toNat < 170141183460469231731687303715884105728), true)], by simp only [I, Bool.or_assoc, Bool.false_or], ?_⟩
        simp only [isU_lo, isI_sat, isI_hi (v := satV a * pow2 s.toNat) (by omega) (by omega), all_tt, Bool.and_eq_true, decide_eq_true_eq]
        exact ⟨trivial, trivial, trivial, trivial, ⟨by omega, by omega⟩, by omega, ae_nil⟩
  · cases hF
def mulDivV (a b d : Int) : Int := byV (satV a * satV b) (satV d)
def mulDivH (a b d : Int) : Bool := satH a || (satH b || (satH d || byH (satV a * satV b) (satV d)))
def fmdS : List LV → Bool → Option (LV × Bool × List (Bool × Bool))
  | [.v (.one (.int .i64 a)), .v (.one (.int .i64 b)), .v (.one (.int .i64 d))], hb => some (I (mulDivV a b d), hb || mulDivH a b d, [])
  | _, _ => none
theorem sumFmd : SumOK Tryz.prog 40 (accSum 58 fmdS) := by
  refine sumxmuldiv.acc_re fun args hb v h' cs hF _ => ?_
  unfold fmdS at hF
  split at hF
  · rename_i a b d
    cases hF
    show ∃ cs', xmuldivT a b d hb = _ ∧ _
    unfold xmuldivT
    rw [wVal_mk]
    refine ⟨[(isI (wHi (satV a * satV b)), true), (isU (wLo (satV a * satV b)), true), (isI (satV d), true), (isI (satV a), true), (isI (satV b), true)], by simp only [I, mulDivV, mulDivH, Bool.or_assoc], ?_⟩
    simp only [isI_hi_ss, isU_lo, isI_sat]
    simp
  · cases hF
def S14 : FuncId → Option SumK := more (more (more S13 39 (accSum 58 fmulS)) 44 (accSum 58 fdivS)) 40 (accSum 58 fmdS)
theorem sound14 : Sound Tryz.prog S14 := ((sound13.more sumFmul).more sumFdiv).more sumFmd
end Go.Proofs.YthbkhoknlbomgaaGreat

/- wide.Add of two numbers. -/
namespace Go.Proofs.YthbkhoknlbomgaaGreat
open Go.Lr
set_option linter.unusedVariables false
theorem wadd3 (ty : TypeId) (fr : Nat × Nat) (es : Nat) (x y u v : Int) : (runF Tryz.prog S14 Zl 2000 64 [.v (.one (.sl 0 0 2 2))] [(0, ⟨ty, fr, es, [.int .i64 x, .int .u64 y, .int .i64 u, .int .u64 v]⟩)] 1 [none, some false, none, some false, none]).map acc3 = some (LV.tup [V1.agg [At.int IntKind.i64 (w64 (wHi (wVal (w64 (wHi (wVal 0 0 + wVal x y))) (wLo (wVal 0 0 + wVal x y)) + wVal u v))), At.int IntKind.u64 (wLo (wVal (w64 (wHi (wVal 0 0 + wVal x y))) (wLo (wVal 0 0 + wVal x y)) + wVal u v))], V1.one (At.bool true)], some { ty := ty, fr := fr, es := es, cells := [At.int IntKind.i64 x, At.int IntKind.u64 y, At.int IntKind.i64 u, At.int IntKind.u64 v] }, [(!isW (wVal (w64 (wHi (wVal 0 0 + wVal x y))) (wLo (wVal 0 0 + wVal x y)) + wVal u v), false), (isI (w64 (wHi (wVal 0 0 + wVal x y))), true), (isU (wLo (wVal 0 0 + wVal x y)), true), (isI u, true), (isU v, true), (!isW (wVal 0 0 + wVal x y), false), (isI 0, true), (isU 0, true), (isI x, true), (isU y, true)]) := by kernel_rfl
def addSum : Sum := fun args =>
  match args with
  | [.v (.one (.sl b 0 2 2))] => some ⟨[b], [], fun rdB _ _ => match rdB with
    | [⟨_, _, _, [.int .i64 x, .int .u64 y, .int .i64 u, .int .u64 v]⟩] =>
      some ⟨.tup [W1 (wVal x y + wVal u v), .one (.bool true)], [], [], [(isI x, true), (isU y, true), (isI u, true), (isU v, true), (isW (wVal x y + wVal u v), true)]⟩
    | _ => none⟩
  | _ => none
theorem w64_wHi {v : Int} (h : isW v = true) : w64 (wHi v) = wHi v := by
  have := isW_iff.1 h; exact w64_hi this.1 this.2
theorem sumWadd : SumOK Tryz.prog 64 addSum := by
  intro args t g nb p rdB wrB ans ws E w hs hr hw hnd hgo hz hc hrel hg hargs hn
  unfold addSum at hs
  split at hs
  · rename_i b
    cases hs
    simp only at hgo hw hr
    split at hgo
    · rename_i ty fr es x y u v
      cases hgo
      simp only [all_tt, isI_iff, isU_iff] at hc
      obtain ⟨⟨hx0, hx1⟩, ⟨hy0, hy1⟩, ⟨hu0, hu1⟩, ⟨hv0, hv1⟩, hW, -⟩ := hc
      obtain ⟨k, r', hk, hr', hrr⟩ := liveAll_cons hr
      cases liveAll_nil hr'
      cases hrr
      cases liveAll_nil hw
      simp only [zipW] at hz
      cases hz
      have e0 : wVal 0 0 + wVal x y = wVal x y := by unfold wVal; omega
      have hW1 : isW (wVal x y) = true := by rw [isW_iff]; unfold wVal; omega
      have hrun := wadd3 ty fr es x y u v
      rw [e0, w64_wHi hW1, wVal_mk, w64_wHi hW, hW, hW1] at hrun
      cases hq : runF Tryz.prog S14 Zl 2000 64 [.v (.one (.sl 0 0 2 2))] [(0, ⟨ty, fr, es, [.int .i64 x, .int .u64 y, .int .i64 u, .int .u64 v]⟩)] 1 [none, some false, none, some false, none] with
      | none => rw [hq] at hrun; cases hrun
      | some q =>
        obtain ⟨v', m2, nb', cs'⟩ := q
        rw [hq] at hrun
        simp only [Option.map_some, acc3, Option.some.injEq, Prod.mk.injEq] at hrun
        obtain ⟨rfl, hm2, rfl⟩ := hrun
        generalize hE1 : (fun _ : Nat => E b) = E1
        have hE : ∀ i, E1 i = E b := fun i => by rw [← hE1]
        have hcl := lcl_of_run sound14 hq (m' := [(0, ⟨ty, fr, es, [.int .i64 x, .int .u64 y, .int .i64 u, .int .u64 v]⟩)]) (fun i c hic => by
            obtain ⟨rfl, rfl⟩ := get1 hic
            exact ⟨hm2, Nat.zero_lt_one, rfl⟩) (by
            simp only [all_tt, all_ff, isI_iff, isU_iff]
            have h1 := wHi_inI (wVal x y) (isW_iff.1 hW1).1 (isW_iff.1 hW1).2
            have h2 := wLo_in (wVal x y)
            exact ⟨rfl, ⟨h1.1, h1.2⟩, ⟨h2.1, h2.2⟩, ⟨hu0, hu1⟩, ⟨hv0, hv1⟩, rfl, ⟨by omega, by omega⟩, ⟨by omega, by omega⟩, ⟨hx0, hx1⟩, ⟨hy0, hy1⟩, ae_nil⟩) rfl (fun a ha => by
            rw [List.mem_singleton] at ha; subst ha; rfl) rfl E1 w (rel1 hrel hk rfl (hE 0))
        obtain ⟨fn, f1, f2, f3⟩ := own_of sound14 Tryz.func64 (by kernel_rfl)
        have ha : ([.v (.one (.sl b 0 2 2))] : List LV).map (LV.den E) = ([.v (.one (.sl 0 0 2 2))] : List LV).map (LV.den E1) := by
          simp only [List.map_cons, List.map_nil, LV.den, V1.den, At.den, hE]
        rw [ha]
        refine .inl ⟨fn, f1, f2, f3, hcl.mono ?_⟩
        rintro e w' ⟨rfl, hl⟩
        refine ⟨_, rfl, E, (den_noP rfl).symm, ?_⟩
        refine ⟨fun _ _ => rfl, ⟨fun i c hic => ?_, hrel.inj⟩, hl.os, hl.tape, hl.output, hl.size, fun j hj hne => hl.frame j hj fun i hi => ?_, fun i h1 h2 => by simp at h2; omega⟩
        · simp only [nwG, wrG] at hic
          by_cases hib : i = b
          · subst hib
            rw [hk] at hic
            cases hic
            exact blkAt_ren (E := E1) (i := 0) rfl (hE 0).symm (hl.blk 0 _ rfl)
          · obtain ⟨r, g1, g2, g3⟩ := hrel.blk i c hic
            refine ⟨r, ?_, g2, g3⟩
            rw [hl.frame _ (Array.getElem?_eq_some_iff.1 g1).1 fun j hj e => hib (hrel.inj i b (by simp [hic]) (by simp [hk]) (by rw [hE] at e; exact e.symm))]
            exact g1
        · rw [hE]
          exact hne b (by simp [hk])
    · cases hgo
  · cases hs
def S15 : FuncId → Option SumK := more S14 64 addSum
theorem sound15 : Sound Tryz.prog S15 := sound14.more sumWadd
end Go.Proofs.YthbkhoknlbomgaaGreat

/- fx.Add: its walk, round by round. -/
namespace Go.Proofs.YthbkhoknlbomgaaGreat
open Go.Lr
set_option linter.unusedVariables false
set_option linter.unusedSimpArgs false
theorem fa (dead : Nat → Value) (hb : Bool) (o n c : Nat) (ty : TypeId) (fr : Nat × Nat) (es : Nat) (l : List At) : projS [0,1,4,5] [0,1,2] (execL Tryz.prog S15 Zl 400 (spineL 2 (bodyF Tryz.prog 135)) (Kst.st ⟨argsL 0 [A0, .v (.one (.slx 1 o n c))], [(0, flag 58 hb), (1, ⟨ty, fr, es, l⟩)], 2⟩ 39 dead [])) = some (Ex.normal, [LV.v (V1.one (At.ptr 0 0)), LV.v (V1.one (At.slx 1 o n c)), LV.v (V1.one (At.int IntKind.i64 0)), LV.v (V1.one (At.ptr 2 0))], [some { ty := 58, fr := (0, 0), es := 0, cells := [At.bool hb] }, some { ty := ty, fr := fr, es := es, cells := l }, some { ty := 158, fr := (0, 0), es := 0, cells := [At.int IntKind.i64 0, At.int IntKind.u64 0] }], []) := by kernel_rfl
theorem fb (dead : Nat → Value) (hb : Bool) (o n c : Nat) (ty : TypeId) (fr : Nat × Nat) (es : Nat) (l : List At) (x y : Int) : projS [0,5,10,11,12] [0,1,2] (exec Tryz.prog S15 Zl 400 (.code (c1 (c1 (c2 (c2 (bodyF Tryz.prog 135)))))) (Kst.st ⟨[(0, A0), (1, .v (.one (.slx 1 o n c))), (4, .v (.one (.int .i64 0))), (5, .v (.one (.ptr 2 0)))], [(0, flag 58 hb), (1, ⟨ty, fr, es, l⟩), (2, ⟨158, (0,0), 0, [.int .i64 x, .int .u64 y]⟩)], 3⟩ 39 dead [])) = some (Ex.normal, [LV.v (V1.one (At.ptr 0 0)), LV.v (V1.one (At.ptr 2 0)), LV.v (V1.one (At.slx 1 o n c)), LV.v (V1.one (At.int IntKind.i64 ↑n)), LV.v (V1.one (At.int IntKind.i64 0))], [some { ty := 58, fr := (0, 0), es := 0, cells := [At.bool hb] }, some { ty := ty, fr := fr, es := es, cells := l }, some { ty := 158, fr := (0, 0), es := 0, cells := [At.int IntKind.i64 x, At.int IntKind.u64 y] }], []) := by kernel_rfl
theorem fc (dead : Nat → Value) (hb : Bool) (o n c : Nat) (ty : TypeId) (fr : Nat × Nat) (es : Nat) (l : List At) (x y i : Int) : projS [0,5,10,11,12] [0,1,2] (exec Tryz.prog S15 Zl 400 (.code (c1 (c1 (c2 (c1 (c2 (c2 (bodyF Tryz.prog 135)))))))) (Kst.st ⟨[(0, A0), (5, .v (.one (.ptr 2 0))), (10, .v (.one (.slx 1 o n c))), (11, .v (.one (.int .i64 n))), (12, .v (.one (.int .i64 i)))], [(0, flag 58 hb), (1, ⟨ty, fr, es, l⟩), (2, ⟨158, (0,0), 0, [.int .i64 x, .int .u64 y]⟩)], 3⟩ 39 dead [some true])) = some (Ex.normal, [LV.v (V1.one (At.ptr 0 0)), LV.v (V1.one (At.ptr 2 0)), LV.v (V1.one (At.slx 1 o n c)), LV.v (V1.one (At.int IntKind.i64 ↑n)), LV.v (V1.one (At.int IntKind.i64 (wr IntKind.i64 (i + 1))))], [some { ty := 58, fr := (0, 0), es := 0, cells := [At.bool (hb || satH (intAt l (o + i.toNat * 1)))] }, some { ty := ty, fr := fr, es := es, cells := l }, some { ty := 158, fr := (0, 0), es := 0, cells := [At.int IntKind.i64 (wHi (wVal x y + wVal (wHi (satV (intAt l (o + i.toNat * 1)))) (wLo (satV (intAt l (o + i.toNat * 1)))))), At.int IntKind.u64 (wLo (wVal x y + wVal (wHi (satV (intAt l (o + i.toNat * 1)))) (wLo (satV (intAt l (o + i.toNat * 1))))))] }], [(isI x, true), (isU y, true), (isI (wHi (satV (intAt l (o + i.toNat * 1)))), true), (isU (wLo (satV (intAt l (o + i.toNat * 1)))), true), (isW (wVal x y + wVal (wHi (satV (intAt l (o + i.toNat * 1)))) (wLo (satV (intAt l (o + i.toNat * 1))))), true), (isI (satV (intAt l (o + i.toNat * 1))), true), (isIntAt IntKind.i64 l (o + i.toNat * 1), true), (decide (0 ≤ i) && decide (i < ↑n), true), (decide (i < ↑n), true)]) := by kernel_rfl
theorem fd (dead : Nat → Value) (hb : Bool) (o n c : Nat) (ty : TypeId) (fr : Nat × Nat) (es : Nat) (l : List At) (x y i : Int) : projS [0,5] [0,1,2] (exec Tryz.prog S15 Zl 400 (.code (c1 (c1 (c2 (c1 (c2 (c2 (bodyF Tryz.prog 135)))))))) (Kst.st ⟨[(0, A0), (5, .v (.one (.ptr 2 0))), (10, .v (.one (.slx 1 o n c))), (11, .v (.one (.int .i64 n))), (12, .v (.one (.int .i64 i)))], [(0, flag 58 hb), (1, ⟨ty, fr, es, l⟩), (2, ⟨158, (0,0), 0, [.int .i64 x, .int .u64 y]⟩)], 3⟩ 39 dead [some false])) = some (Ex.exit 0, [LV.v (V1.one (At.ptr 0 0)), LV.v (V1.one (At.ptr 2 0))], [some { ty := 58, fr := (0, 0), es := 0, cells := [At.bool hb] }, some { ty := ty, fr := fr, es := es, cells := l }, some { ty := 158, fr := (0, 0), es := 0, cells := [At.int IntKind.i64 x, At.int IntKind.u64 y] }], [(decide (i < ↑n), false)]) := by kernel_rfl
theorem fe (dead : Nat → Value) (hb : Bool) (ty : TypeId) (fr : Nat × Nat) (es : Nat) (l : List At) (x y : Int) : projS [4] [0,1] (exec Tryz.prog S15 Zl 400 (.code (c2 (c2 (c2 (bodyF Tryz.prog 135))))) (Kst.st ⟨[(0, A0), (5, .v (.one (.ptr 2 0)))], [(0, flag 58 hb), (1, ⟨ty, fr, es, l⟩), (2, ⟨158, (0,0), 0, [.int .i64 x, .int .u64 y]⟩)], 3⟩ 39 dead [])) = some (Ex.ret, [LV.v (V1.one (At.int IntKind.i64 (endV (if isI (rndV (wVal x y) (Int.toNat 0)) = true then rndV (wVal x y) (Int.toNat 0) else 0) (isI (rndV (wVal x y) (Int.toNat 0))) (decide (x < 0)))))], [some { ty := 58, fr := (0, 0), es := 0, cells := [At.bool (hb || endH (if isI (rndV (wVal x y) (Int.toNat 0)) = true then rndV (wVal x y) (Int.toNat 0) else 0) (isI (rndV (wVal x y) (Int.toNat 0))))] }, some { ty := ty, fr := fr, es := es, cells := l }], [(isI x, true), (isU y, true), (decide (0 ≤ 0) && decide (0 ≤ 126), true)]) := by kernel_rfl
theorem memOK3 {nb : Nat} {b0 b1 b2 : Blk} (hnb : 3 ≤ nb) (h0 : okL (below nb) b0.cells = true) (h1 : okL (below nb) b1.cells = true) (h2 : okL (below nb) b2.cells = true) : memOKb nb [(0, b0), (1, b1), (2, b2)] = true := by
  have e0 : Nat.blt 0 nb = true := by rw [nblt]; simp; omega
  have e1 : Nat.blt 1 nb = true := by rw [nblt]; simp; omega
  have e2 : Nat.blt 2 nb = true := by rw [nblt]; simp; omega
  simp only [memOKb, e0, e1, e2, h0, h1, h2]
  rfl
theorem memOK2 {nb : Nat} {b0 b1 : Blk} (hnb : 2 ≤ nb) (h0 : okL (below nb) b0.cells = true) (h1 : okL (below nb) b1.cells = true) : memOKb nb [(0, b0), (1, b1)] = true := by
  have e0 : Nat.blt 0 nb = true := by rw [nblt]; simp; omega
  have e1 : Nat.blt 1 nb = true := by rw [nblt]; simp; omega
  simp only [memOKb, e0, e1, h0, h1]
  rfl
theorem kst_ok {A : Kst} (h1 : liveOKb A.nb A.live = true) (h2 : memOKb A.nb A.mem = true) : KstOK A := by
  obtain ⟨a, b, c⟩ := liveOKb_ok h1
  obtain ⟨d, e⟩ := memOKb_ok h2
  exact ⟨a, b, c, d, e⟩
def sumS : List Int → Int
  | [] => 0
  | a :: l => satV a + sumS l
def anyH : List Int → Bool
  | [] => false
  | a :: l => satH a || anyH l
theorem sumS_app (l m : List Int) : sumS (l ++ m) = sumS l + sumS m := by
  induction l with
  | nil => simp [sumS]
  | cons a l ih => simp only [List.cons_append, sumS, ih]; omega
theorem anyH_app (l m : List Int) : anyH (l ++ m) = (anyH l || anyH m) := by
  induction l with
  | nil => simp [anyH]
  | cons a l ih => simp only [List.cons_append, anyH, ih, Bool.or_assoc]
theorem sumS_bd (l : List Int) : -(l.length * 1152921504606846976 : Int) ≤ sumS l ∧ sumS l ≤ l.length * 1152921504606846976 := by
  induction l with
  | nil => simp [sumS]
  | cons a l ih =>
    have := sat_bd a
    simp only [sumS, List.length_cons]
    push_cast
    omega
theorem take_snoc {α : Type} (l : List α) (i : Nat) (h : i < l.length) : l.take (i + 1) = l.take i ++ [l[i]] := by rw [List.take_succ_eq_append_getElem h]
def wB (v : Int) : Blk := ⟨158, (0, 0), 0, [.int .i64 (wHi v), .int .u64 (wLo v)]⟩
noncomputable def addBd : Code := c1 (c2 (c2 (bodyF Tryz.prog 135)))
def adA (k : Blk) (o n c : Nat) (h : Bool) (v : Int) (i : Int) : Kst := ⟨[(0, A0), (5, P2), (10, .v (.one (.slx 1 o n c))), (11, .v (.one (.int .i64 n))), (12, .v (.one (.int .i64 i)))], [(0, flag 58 h), (1, k), (2, wB v)], 3⟩
def adB (k : Blk) (h : Bool) (v : Int) : Kst := ⟨[(0, A0), (5, P2)], [(0, flag 58 h), (1, k), (2, wB v)], 3⟩
theorem addStep (k : Blk) (o n c : Nat) (xs : List Int) (hk : SlAt 1 k o n xs) (hn : n < 1152921504606846976) (hb : Bool) (i : Nat) (hi : i < n) :
    To Tryz.prog 39 (c1 (c1 (c2 addBd))) (adA k o n c (hb || anyH (xs.take i)) (sumS (xs.take i)) i) .normal (adA k o n c (hb || anyH (xs.take (i + 1))) (sumS (xs.take (i + 1))) ((i : Int) + 1)) := by
  obtain ⟨hlen, hat, hok⟩ := hk
  have hi' : i < xs.length := by omega
  have hx := intAt_of (hat i hi')
  have hs := take_snoc xs i hi'
  have b0 := sumS_bd (xs.take i)
  rw [List.length_take] at b0
  have b1 := sat_bd xs[i]
  have hm : ((min i xs.length : Nat) : Int) = i := by omega
  rw [hm] at b0
  have e1 : sumS (xs.take (i + 1)) = sumS (xs.take i) + satV xs[i] := by rw [hs, sumS_app]; simp [sumS]
  have e2 : (hb || anyH (xs.take (i + 1))) = ((hb || anyH (xs.take i)) || satH xs[i]) := by rw [hs, anyH_app]; simp [anyH, Bool.or_assoc]
  have e3 : ((i : Int)).toNat * 1 = i := by simp
  have e4 : wr .i64 ((i : Int) + 1) = (i : Int) + 1 := w64_in (by omega) (by omega)
  obtain ⟨ty, fr, es, l⟩ := k
  rw [e1, e2]
  generalize sumS (xs.take i) = S at *
  have hi2 := wHi_inI S (by omega) (by omega)
  have hl2 := wLo_in S
  have hi3 := wHi_inI (satV xs[i]) (by omega) (by omega)
  have hl3 := wLo_in (satV xs[i])
  refine To.run (z := Zl) sound15 (slots := [0, 5, 10, 11, 12]) (blks := [0, 1, 2]) (vs := [A0, P2, .v (.one (.slx 1 o n c)), .v (.one (.int .i64 n)), .v (.one (.int .i64 ((i : Int) + 1)))])
    (bs := [flag 58 ((hb || anyH (xs.take i)) || satH xs[i]), ⟨ty, fr, es, l⟩, wB (S + satV xs[i])]) (nbB := 3)
    (fun dead => fc dead (hb || anyH (xs.take i)) o n c ty fr es l (wHi S) (wLo S) i) rfl (by rw [e4]; rfl) (by rw [e3, hx.1]; simp only [wVal_mk]; rfl) ?_ (kst_ok rfl (memOK3 (Nat.le_refl _) rfl (okL_mono noP_below hok) rfl)) (Nat.le_refl _)
  rw [e3, hx.1, hx.2]
  simp only [wVal_mk, all_tt, isI_iff, isU_iff, isW_iff, Bool.and_eq_true, decide_eq_true_eq]
  repeat' apply And.intro
  all_goals first | exact ae_nil | exact True.intro | omega
theorem addEnd (k : Blk) (o n c : Nat) (hok : okL noP k.cells = true) (h : Bool) (v : Int) : To Tryz.prog 39 (c1 (c1 (c2 addBd))) (adA k o n c h v n) (.exit 0) (adB k h v) := by
  obtain ⟨ty, fr, es, l⟩ := k
  refine To.exec (z := Zl) sound15 (slots := [0, 5]) (blks := [0, 1, 2]) (vs := [A0, P2]) (bs := [flag 58 h, ⟨ty, fr, es, l⟩, wB v]) (nbB := 3) (fun dead => fd dead h o n c ty fr es l (wHi v) (wLo v) n) ?_ (kst_ok rfl (memOK3 (Nat.le_refl _) rfl (okL_mono noP_below hok) rfl)) (Nat.le_refl _)
  simp
theorem addRd (k : Blk) (o n c : Nat) (xs : List Int) (hk : SlAt 1 k o n xs) (hn : n < 1152921504606846976) (hb : Bool) : ∀ (m i : Nat), i + m = n →
    Rd Tryz.prog 39 (c1 (c1 (c2 addBd))) (m + 1) (adA k o n c (hb || anyH (xs.take i)) (sumS (xs.take i)) i) (.exit 0) (adB k (hb || anyH xs) (sumS xs))
  | 0, i, h => by
    have hi : i = n := by omega
    have hl : xs.length = n := by have := hk.1; omega
    subst hi
    rw [← hl, List.take_length, hl]
    exact Rd.last (by simp) (addEnd k o i c hk.2.2 _ _)
  | m + 1, i, h => by
    have hs := addStep k o n c xs hk hn hb i (by omega)
    refine Rd.next hs ?_
    exact addRd k o n c xs hk hn hb m (i + 1) (by omega)
def faddV (xs : List Int) : Int := satV (sumS xs)
def faddH (xs : List Int) : Bool := anyH xs || satH (sumS xs)
def faddS : List AV → Bool → Option (LV × Bool × List (Bool × Bool))
  | [.ints xs], hb => some (I (faddV xs), hb || faddH xs, [(decide (xs.length < 1152921504606846976), true)])
  | _, _ => none
theorem fnil (hb : Bool) : (runF Tryz.prog S15 Zl 2000 135 [A0, .v (.one .nilsl)] [(0, flag 58 hb)] 1 []).map (fun r => (r.1, getM r.2.1 0, r.2.2.2)) = some (I 0, some (flag 58 (hb || false)), [(true, true), (true, true), (true, true)]) := by kernel_rfl
theorem rnd0 (v : Int) : rndV v (Int.toNat 0) = v := by
  have h : rndV v 0 = sgn (decide (v < 0)) ((absV v + 0) / 1) := rfl
  show rndV v 0 = v
  rw [h, Int.add_zero, Int.ediv_one, sgn_abs]
theorem sumFadd : SumOK Tryz.prog 135 (acSum 58 1 faddS) := by
  refine acSum1_ok (own_of sound15 Tryz.func135 (by kernel_rfl)) (fun avs hb r h => ?_) fun pre xs hb v h' cs hF hc hp hv => ?_
  · unfold faddS at h
    split at h
    · exact ⟨[], _, rfl⟩
    · cases h
  · have hpre : pre = [] := by
      cases pre with
      | nil => rfl
      | cons p pre =>
        simp only [List.map_cons, List.cons_append] at hF
        unfold faddS at hF
        split at hF
        · rename_i he; simp at he
        · cases hF
    subst hpre
    have hF' : some (I (faddV xs), hb || faddH xs, [(decide (xs.length < 1152921504606846976), true)]) = some (v, h', cs) := hF
    cases hF'
    simp only [all_tt, decide_eq_true_eq] at hc
    obtain ⟨hn, -⟩ := hc
    refine ⟨fun k o n c hk _ E w hrel => ?_, fun hx E w hrel => ?_⟩
    · have hlen : xs.length = n := by have := hk.1; omega
      rw [hlen] at hn
      have hok := hk.2.2
      have hR := addRd k o n c xs hk hn hb n 0 (by omega)
      have b0 := sumS_bd xs
      rw [hlen] at b0
      have hi2 := wHi_inI (sumS xs) (by omega) (by omega)
      have hl2 := wLo_in (sumS xs)
      have hend : endV (if isI (sumS xs) = true then sumS xs else 0) (isI (sumS xs)) (decide (wHi (sumS xs) < 0)) = faddV xs := by
        have := end_rnd (sumS xs) 0 (decide (wHi (sumS xs) < 0)) (by rw [wVal_neg hl2.1 hl2.2, wVal_mk])
        have e := rnd0 (sumS xs)
        rw [show Int.toNat 0 = 0 from rfl] at e
        rw [e] at this
        exact this
      obtain ⟨ty, fr, es, l⟩ := k
      refine lcl_of_To (c := bodyF Tryz.prog 135) (e := .ret) (nb := 2) (B := ⟨[(4, .v (.one (.int .i64 (faddV xs))))], [(0, flag 58 (hb || faddH xs)), (1, ⟨ty, fr, es, l⟩)], 3⟩) Tryz.func135 (by kernel_rfl) (Nat.le_of_ble_eq_true (by kernel_rfl)) (Nat.le_of_ble_eq_true (by kernel_rfl))
        (fun u hu => ?_) (memOK2 (Nat.le_refl _) rfl (okL_mono noP_below hok)) ?_ (.inr rfl) (fun dead => by kernel_rfl) rfl (fun i b hib => ?_) E w hrel
      · simp only [List.nil_append, List.mem_cons, List.not_mem_nil, or_false] at hu
        rcases hu with rfl | rfl <;> rfl
      · refine To.spineR (z := Zl) sound15 (k := 2) (slots := [0, 1, 4, 5]) (blks := [0, 1, 2]) (vs := [A0, .v (.one (.slx 1 o n c)), .v (.one (.int .i64 0)), P2]) (bs := [flag 58 hb, ⟨ty, fr, es, l⟩, wB 0]) (nbB := 3) (by kernel_rfl) (fun dead => fa dead hb o n c ty fr es l) rfl rfl rfl (by simp) (kst_ok rfl (memOK3 (Nat.le_refl _) rfl (okL_mono noP_below hok) rfl)) (Nat.le_succ 2) ?_
        refine To.seq (by kernel_rfl) (To.seq (by kernel_rfl) (To.exec (z := Zl) sound15 (slots := [0, 5, 10, 11, 12]) (blks := [0, 1, 2]) (vs := [A0, P2, .v (.one (.slx 1 o n c)), .v (.one (.int .i64 n)), .v (.one (.int .i64 0))]) (bs := [flag 58 hb, ⟨ty, fr, es, l⟩, wB 0]) (nbB := 3) (fun dead => fb dead hb o n c ty fr es l 0 0) (by simp) (kst_ok rfl (memOK3 (Nat.le_refl _) rfl (okL_mono noP_below hok) rfl)) (Nat.le_refl _))
          (To.block (id := 0) (by kernel_rfl) (To.loop (m := n + 1) (by kernel_rfl) ?_) (.inl rfl))) (C := _) (B := adB ⟨ty, fr, es, l⟩ (hb || anyH xs) (sumS xs)) ?_
        · have h0 : adA ⟨ty, fr, es, l⟩ o n c (hb || anyH (xs.take 0)) (sumS (xs.take 0)) ((0 : Nat) : Int) = ⟨[0, 5, 10, 11, 12].zip [A0, P2, .v (.one (.slx 1 o n c)), .v (.one (.int .i64 n)), .v (.one (.int .i64 0))], [0, 1, 2].zip [flag 58 hb, ⟨ty, fr, es, l⟩, wB 0], 3⟩ := by
            unfold adA
            simp only [List.take_zero, anyH, Bool.or_false, sumS]
            rfl
          rw [← h0]
          exact hR
        · refine To.run (z := Zl) sound15 (slots := [4]) (blks := [0, 1]) (vs := [.v (.one (.int .i64 (faddV xs)))]) (bs := [flag 58 (hb || faddH xs), ⟨ty, fr, es, l⟩]) (nbB := 3) (fun dead => fe dead (hb || anyH xs) ty fr es l (wHi (sumS xs)) (wLo (sumS xs))) rfl ?_ ?_ ?_ (kst_ok rfl (memOK2 (Nat.le_succ 2) rfl (okL_mono noP_below hok))) (Nat.le_refl _)
          · rw [wVal_mk, rnd0, hend]
          · rw [wVal_mk, rnd0, endH_of, Bool.or_assoc]; rfl
          · simp only [all_tt, isI_iff, isU_iff]
            exact ⟨hi2, hl2, rfl, ae_nil⟩
      · rcases get2 hib with ⟨rfl, rfl⟩ | ⟨rfl, rfl⟩
        · exact ⟨rfl, by decide, rfl⟩
        · exact ⟨rfl, by decide, okL_mono noP_below hok⟩
    · subst hx
      have hrun := fnil hb
      cases hq : runF Tryz.prog S15 Zl 2000 135 [A0, .v (.one .nilsl)] [(0, flag 58 hb)] 1 [] with
      | none => rw [hq] at hrun; cases hrun
      | some q =>
        obtain ⟨v', m2, nb', cs'⟩ := q
        rw [hq] at hrun
        simp only [Option.map_some, Option.some.injEq, Prod.mk.injEq] at hrun
        obtain ⟨rfl, hm2, rfl⟩ := hrun
        exact lcl_of_run sound15 hq (m' := [(0, flag 58 (hb || faddH []))]) (fun i c hic => by
            obtain ⟨rfl, rfl⟩ := get1 hic
            exact ⟨hm2, Nat.zero_lt_one, rfl⟩) (by simp) rfl (fun a ha => by
            simp only [List.mem_cons, List.not_mem_nil, or_false] at ha
            rcases ha with rfl | rfl <;> rfl) rfl E w hrel
def S16 : FuncId → Option SumK := more S15 135 (acSum 58 1 faddS)
theorem sound16 : Sound Tryz.prog S16 := sound15.more sumFadd
end Go.Proofs.YthbkhoknlbomgaaGreat

/- root: end, Recip, by every path of their runs (printed), and what they come to. -/
namespace Go.Proofs.YthbkhoknlbomgaaGreat
open Go.Lr
set_option linter.unusedVariables false
set_option linter.unusedSimpArgs false
theorem xrendR1 (x y : Int) (hb : Bool) : (runF Tryz.prog S16 Zl 2000 77 [A0, .v (.agg [.int .i64 x, .int .u64 y])] [(0, flag 58 hb)] 1 [some true]).map acc3 = some (LV.v (V1.one (At.int IntKind.i64 (satV 1152921504606846977))), some { ty := 58, fr := (0, 0), es := 0, cells := [At.bool (hb || satH 1152921504606846977)] }, [(!isI (rootW (wVal x y)), true), (decide (x < 0), false), (isI x, true), (isU y, true)]) := by kernel_rfl
theorem xrendR2 (x y : Int) (hb : Bool) : (runF Tryz.prog S16 Zl 2000 77 [A0, .v (.agg [.int .i64 x, .int .u64 y])] [(0, flag 58 hb)] 1 [some false]).map acc3 = some (LV.v (V1.one (At.int IntKind.i64 (satV (if isI (rootW (wVal x y)) = true then rootW (wVal x y) else 0)))), some { ty := 58, fr := (0, 0), es := 0, cells := [At.bool (hb || satH (if isI (rootW (wVal x y)) = true then rootW (wVal x y) else 0))] }, [(!isI (rootW (wVal x y)), false), (decide (x < 0), false), (isI x, true), (isU y, true)]) := by kernel_rfl
def xrendT (x y : Int) (hb : Bool) : Option (LV × Bool × List (Bool × Bool)) := 
  bif (!isI (rootW (wVal x y))) then some (LV.v (V1.one (At.int IntKind.i64 (satV 1152921504606846977))), (hb || satH 1152921504606846977), [(decide (x < 0), false), (isI x, true), (isU y, true)])
  else some (LV.v (V1.one (At.int IntKind.i64 (satV (if isI (rootW (wVal x y)) = true then rootW (wVal x y) else 0)))), (hb || satH (if isI (rootW (wVal x y)) = true then rootW (wVal x y) else 0)), [(decide (x < 0), false), (isI x, true), (isU y, true)])
def xrendF : List LV → Bool → Option (LV × Bool × List (Bool × Bool))
  | [.v (.agg [.int .i64 x, .int .u64 y])], hb => xrendT x y hb
  | _, _ => none
theorem sumxrend : SumOK Tryz.prog 77 (accSum 58 xrendF) := by
  refine accSum_run (z := Zl) sound16 (own_of sound16 Tryz.func77 (by kernel_rfl)) fun args hb v h' cs hF hc => ?_
  unfold xrendF at hF
  split at hF
  · rename_i x y
    unfold xrendT at hF
    rcases bool_cases (!isI (rootW (wVal x y))) with h0 | h0
    · rw [cond_t h0] at hF
      cases hF
      exact ⟨rfl, 2000, [some true], _, xrendR1 x y hb, ae_cons (h0) (ae_cons (hd_of (hc)) (ae_cons (hd_of (tl_of (hc))) (ae_cons (hd_of (tl_of (tl_of (hc)))) (ae_nil))))⟩
    · rw [cond_f h0] at hF
      cases hF
      exact ⟨rfl, 2000, [some false], _, xrendR2 x y hb, ae_cons (h0) (ae_cons (hd_of (hc)) (ae_cons (hd_of (tl_of (hc))) (ae_cons (hd_of (tl_of (tl_of (hc)))) (ae_nil))))⟩
  · cases hF
def endRS : List LV → Bool → Option (LV × Bool × List (Bool × Bool))
  | [.v (.agg [.int .i64 x, .int .u64 y])], hb => some (I (satV (rootW (wVal x y))), hb || satH (rootW (wVal x y)), [(decide (x < 0), false), (isI x, true), (isU y, true)])
  | _, _ => none
theorem sumRend : SumOK Tryz.prog 77 (accSum 58 endRS) := by
  refine sumxrend.acc_re fun args hb v h' cs hF hc => ?_
  unfold endRS at hF
  split at hF
  · rename_i x y
    cases hF
    refine ⟨[(decide (x < 0), false), (isI x, true), (isU y, true)], ?_, hc⟩
    show xrendT x y hb = _
    simp only [all_tt, all_ff, isI_iff, isU_iff, decide_eq_false_iff_not] at hc
    obtain ⟨hx, ⟨hx0, hx1⟩, ⟨hy0, hy1⟩, -⟩ := hc
    have hN0 : 0 ≤ wVal x y := by unfold wVal; omega
    have hN1 : wVal x y < 340282366920938463463374607431768211456 := by unfold wVal; omega
    have hr := (rootW_spec hN0 hN1).1
    unfold xrendT
    generalize rootW (wVal x y) = r at *
    by_cases hi : isI r = true
    · rw [cond_f (by rw [hi]; rfl), if_pos hi]; rfl
    · have hi' : isI r = false := by simpa using hi
      rw [cond_t (by rw [hi']; rfl)]
      have hbig : ¬ (-9223372036854775808 ≤ r ∧ r < 9223372036854775808) := fun hh => hi (isI_iff.2 hh)
      rw [sat_hi (a := r) (by omega), satH_out (a := r) (by omega), sat_hi (a := 1152921504606846977) (by omega), satH_out (a := 1152921504606846977) (by omega)]
      rfl
  · cases hF
def S17 : FuncId → Option SumK := more S16 77 (accSum 58 endRS)
theorem sound17 : Sound Tryz.prog S17 := sound16.more sumRend
end Go.Proofs.YthbkhoknlbomgaaGreat

/- root: Sqrt, Hypot: their walks, and what they come to. -/
namespace Go.Proofs.YthbkhoknlbomgaaGreat
open Go.Lr
set_option linter.unusedVariables false
set_option linter.unusedSimpArgs false
theorem xsqrtR1 (a : Int) (hb : Bool) : (runF Tryz.prog S17 Zl 2000 43 [A0, .v (.one (.int .i64 a))] [(0, flag 58 hb)] 1 [some true]).map acc3 = some (LV.v (V1.one (At.int IntKind.i64 0)), some { ty := 58, fr := (0, 0), es := 0, cells := [At.bool true] }, [(decide (satV a < 0), true)]) := by kernel_rfl
theorem xsqrtR2 (a : Int) (hb : Bool) : (runF Tryz.prog S17 Zl 2000 43 [A0, .v (.one (.int .i64 a))] [(0, flag 58 hb)] 1 [some false]).map acc3 = some (LV.v (V1.one (At.int IntKind.i64 (satV (rootW (wVal (wHi (satV a * pow2 (Int.toNat 30))) (wLo (satV a * pow2 (Int.toNat 30)))))))), some { ty := 58, fr := (0, 0), es := 0, cells := [At.bool (hb || satH a || satH (rootW (wVal (wHi (satV a * pow2 (Int.toNat 30))) (wLo (satV a * pow2 (Int.toNat 30))))))] }, [(decide (wHi (satV a * pow2 (Int.toNat 30)) < 0), false), (isI (wHi (satV a * pow2 (Int.toNat 30))), true), (isU (wLo (satV a * pow2 (Int.toNat 30))), true), (isI (satV a), true), (decide (0 ≤ 30) && decide (30 ≤ 127), true), (decide (absV (satV a) * pow2 (Int.toNat 30) < 170141183460469231731687303715884105728), true), (decide (satV a < 0), false)]) := by kernel_rfl
def xsqrtT (a : Int) (hb : Bool) : Option (LV × Bool × List (Bool × Bool)) := 
  bif (decide (satV a < 0)) then some (LV.v (V1.one (At.int IntKind.i64 0)), (true), [])
  else some (LV.v (V1.one (At.int IntKind.i64 (satV (rootW (wVal (wHi (satV a * pow2 (Int.toNat 30))) (wLo (satV a * pow2 (Int.toNat 30)))))))), (hb || satH a || satH (rootW (wVal (wHi (satV a * pow2 (Int.toNat 30))) (wLo (satV a * pow2 (Int.toNat 30)))))), [(decide (wHi (satV a * pow2 (Int.toNat 30)) < 0), false), (isI (wHi (satV a * pow2 (Int.toNat 30))), true), (isU (wLo (satV a * pow2 (Int.toNat 30))), true), (isI (satV a), true), (decide (0 ≤ 30) && decide (30 ≤ 127), true), (decide (absV (satV a) * pow2 (Int.toNat 30) < 170141183460469231731687303715884105728), true)])
def xsqrtF : List LV → Bool → Option (LV × Bool × List (Bool × Bool))
  | [.v (.one (.int .i64 a))], hb => xsqrtT a hb
  | _, _ => none
theorem sumxsqrt : SumOK Tryz.prog 43 (accSum 58 xsqrtF) := by
  refine accSum_run (z := Zl) sound17 (own_of sound17 Tryz.func43 (by kernel_rfl)) fun args hb v h' cs hF hc => ?_
  unfold xsqrtF at hF
  split at hF
  · rename_i a
    unfold xsqrtT at hF
    rcases bool_cases (decide (satV a < 0)) with h0 | h0
    · rw [cond_t h0] at hF
      cases hF
      exact ⟨rfl, 2000, [some true], _, xsqrtR1 a hb, ae_cons (h0) (ae_nil)⟩
    · rw [cond_f h0] at hF
      cases hF
      exact ⟨rfl, 2000, [some false], _, xsqrtR2 a hb, ae_cons (hd_of (hc)) (ae_cons (hd_of (tl_of (hc))) (ae_cons (hd_of (tl_of (tl_of (hc)))) (ae_cons (hd_of (tl_of (tl_of (tl_of (hc))))) (ae_cons (hd_of (tl_of (tl_of (tl_of (tl_of (hc)))))) (ae_cons (hd_of (tl_of (tl_of (tl_of (tl_of (tl_of (hc))))))) (ae_cons (h0) (ae_nil)))))))⟩
  · cases hF
theorem hb (dead : Nat → Value) (hb : Bool) (o n c : Nat) (ty : TypeId) (fr : Nat × Nat) (es : Nat) (l : List At) (x y : Int) : projS [0,5,12,13,14] [0,1,2] (exec Tryz.prog S17 Zl 400 (.code (c1 (c1 (c2 (c2 (bodyF Tryz.prog 67)))))) (Kst.st ⟨[(0, A0), (1, .v (.one (.slx 1 o n c))), (4, .v (.one (.int .i64 0))), (5, P2)], [(0, flag 58 hb), (1, ⟨ty, fr, es, l⟩), (2, ⟨158, (0,0), 0, [.int .i64 x, .int .u64 y]⟩)], 3⟩ 34 dead [])) = some (Ex.normal, [LV.v (V1.one (At.ptr 0 0)), LV.v (V1.one (At.ptr 2 0)), LV.v (V1.one (At.slx 1 (if c = ((Int.ofNat 0)).toNat then o else o + ((Int.ofNat 0)).toNat * 1) ((if (64 : Int) < (n : Int) then 64 else (n : Int)).toNat - ((Int.ofNat 0)).toNat) (c - ((Int.ofNat 0)).toNat))), LV.v (V1.one (At.int IntKind.i64 ↑((if (64 : Int) < (n : Int) then 64 else (n : Int)).toNat - ((Int.ofNat 0)).toNat))), LV.v (V1.one (At.int IntKind.i64 0))], [some { ty := 58, fr := (0, 0), es := 0, cells := [At.bool hb] }, some { ty := ty, fr := fr, es := es, cells := l }, some { ty := 158, fr := (0, 0), es := 0, cells := [At.int IntKind.i64 x, At.int IntKind.u64 y] }], [(decide (0 ≤ (Int.ofNat 0)) && (decide ((Int.ofNat 0) ≤ if 64 < (n : Int) then 64 else (n : Int)) && decide ((if (64 : Int) < (n : Int) then 64 else (n : Int)) ≤ (c : Int))), true)]) := by kernel_rfl
theorem hc (dead : Nat → Value) (hb : Bool) (o n c : Nat) (ty : TypeId) (fr : Nat × Nat) (es : Nat) (l : List At) (x y i : Int) : projS [0,5,12,13,14] [0,1,2] (exec Tryz.prog S17 Zl 400 (.code (c1 (c1 (c2 (c1 (c2 (c2 (bodyF Tryz.prog 67)))))))) (Kst.st ⟨[(0, A0), (5, P2), (12, .v (.one (.slx 1 o n c))), (13, .v (.one (.int .i64 n))), (14, .v (.one (.int .i64 i)))], [(0, flag 58 hb), (1, ⟨ty, fr, es, l⟩), (2, ⟨158, (0,0), 0, [.int .i64 x, .int .u64 y]⟩)], 3⟩ 34 dead [some true])) = some (Ex.normal, [LV.v (V1.one (At.ptr 0 0)), LV.v (V1.one (At.ptr 2 0)), LV.v (V1.one (At.slx 1 o n c)), LV.v (V1.one (At.int IntKind.i64 (n : Int))), LV.v (V1.one (At.int IntKind.i64 (wr IntKind.i64 (i + 1))))], [some { ty := 58, fr := (0, 0), es := 0, cells := [At.bool (hb || satH (intAt l (o + i.toNat * 1)))] }, some { ty := ty, fr := fr, es := es, cells := l }, some { ty := 158, fr := (0, 0), es := 0, cells := [At.int IntKind.i64 (wHi (wVal x y + wVal (wHi (satV (intAt l (o + i.toNat * 1)) * satV (intAt l (o + i.toNat * 1)))) (wLo (satV (intAt l (o + i.toNat * 1)) * satV (intAt l (o + i.toNat * 1)))))), At.int IntKind.u64 (wLo (wVal x y + wVal (wHi (satV (intAt l (o + i.toNat * 1)) * satV (intAt l (o + i.toNat * 1)))) (wLo (satV (intAt l (o + i.toNat * 1)) * satV (intAt l (o + i.toNat * 1))))))] }], [(isI x, true), (isU y, true), (isI (wHi (satV (intAt l (o + i.toNat * 1)) * satV (intAt l (o + i.toNat * 1)))), true), (isU (wLo (satV (intAt l (o + i.toNat * 1)) * satV (intAt l (o + i.toNat * 1)))), true), (isW (wVal x y + wVal (wHi (satV (intAt l (o + i.toNat * 1)) * satV (intAt l (o + i.toNat * 1)))) (wLo (satV (intAt l (o + i.toNat * 1)) * satV (intAt l (o + i.toNat * 1))))), true), (isI (satV (intAt l (o + i.toNat * 1))), true), (isI (satV (intAt l (o + i.toNat * 1))), true), (isIntAt IntKind.i64 l (o + i.toNat * 1), true), (decide (0 ≤ i) && decide (i < (n : Int)), true), (decide (i < (n : Int)), true)]) := by kernel_rfl
theorem hd (dead : Nat → Value) (hb : Bool) (o n c : Nat) (ty : TypeId) (fr : Nat × Nat) (es : Nat) (l : List At) (x y i : Int) : projS [0,5] [0,1,2] (exec Tryz.prog S17 Zl 400 (.code (c1 (c1 (c2 (c1 (c2 (c2 (bodyF Tryz.prog 67)))))))) (Kst.st ⟨[(0, A0), (5, P2), (12, .v (.one (.slx 1 o n c))), (13, .v (.one (.int .i64 n))), (14, .v (.one (.int .i64 i)))], [(0, flag 58 hb), (1, ⟨ty, fr, es, l⟩), (2, ⟨158, (0,0), 0, [.int .i64 x, .int .u64 y]⟩)], 3⟩ 34 dead [some false])) = some (Ex.exit 0, [LV.v (V1.one (At.ptr 0 0)), LV.v (V1.one (At.ptr 2 0))], [some { ty := 58, fr := (0, 0), es := 0, cells := [At.bool hb] }, some { ty := ty, fr := fr, es := es, cells := l }, some { ty := 158, fr := (0, 0), es := 0, cells := [At.int IntKind.i64 x, At.int IntKind.u64 y] }], [(decide (i < (n : Int)), false)]) := by kernel_rfl
theorem he (dead : Nat → Value) (hb : Bool) (ty : TypeId) (fr : Nat × Nat) (es : Nat) (l : List At) (x y : Int) : projS [4] [0,1] (exec Tryz.prog S17 Zl 400 (.code (c2 (c2 (c2 (bodyF Tryz.prog 67))))) (Kst.st ⟨[(0, A0), (5, P2)], [(0, flag 58 hb), (1, ⟨ty, fr, es, l⟩), (2, ⟨158, (0,0), 0, [.int .i64 x, .int .u64 y]⟩)], 3⟩ 34 dead [])) = some (Ex.ret, [LV.v (V1.one (At.int IntKind.i64 (satV (rootW (wVal x y)))))], [some { ty := 58, fr := (0, 0), es := 0, cells := [At.bool (hb || satH (rootW (wVal x y)))] }, some { ty := ty, fr := fr, es := es, cells := l }], [(decide (x < 0), false), (isI x, true), (isU y, true)]) := by kernel_rfl
theorem ha (dead : Nat → Value) (hb : Bool) (o n c : Nat) (ty : TypeId) (fr : Nat × Nat) (es : Nat) (l : List At) : projS [0,1,4,5] [0,1,2] (execL Tryz.prog S17 Zl 400 (spineL 2 (bodyF Tryz.prog 67)) (Kst.st ⟨argsL 0 [A0, .v (.one (.slx 1 o n c))], [(0, flag 58 hb), (1, ⟨ty, fr, es, l⟩)], 2⟩ 34 dead [])) = some (Ex.normal, [LV.v (V1.one (At.ptr 0 0)), LV.v (V1.one (At.slx 1 o n c)), LV.v (V1.one (At.int IntKind.i64 0)), LV.v (V1.one (At.ptr 2 0))], [some { ty := 58, fr := (0, 0), es := 0, cells := [At.bool hb] }, some { ty := ty, fr := fr, es := es, cells := l }, some { ty := 158, fr := (0, 0), es := 0, cells := [At.int IntKind.i64 0, At.int IntKind.u64 0] }], []) := by kernel_rfl
def sqrtV (a : Int) : Int := if satV a < 0 then 0 else satV (rootW (satV a * 1073741824))
def sqrtH (a : Int) : Bool := satH a || (decide (satV a < 0) || satH (rootW (satV a * 1073741824)))
def fsqrtS : List LV → Bool → Option (LV × Bool × List (Bool × Bool))
  | [.v (.one (.int .i64 a))], hb => some (I (sqrtV a), hb || sqrtH a, [])
  | _, _ => none
theorem sumSqrt : SumOK Tryz.prog 43 (accSum 58 fsqrtS) := by
  refine sumxsqrt.acc_re fun args hb v h' cs hF hc => ?_
  unfold fsqrtS at hF
  split at hF
  · rename_i a
    cases hF
    show ∃ cs', xsqrtT a hb = _ ∧ _
    unfold xsqrtT sqrtV sqrtH
    have b := sat_bd a
    have e1 : pow2 (Int.toNat 30) = 1073741824 := rfl
    rw [e1]
    by_cases h1 : satV a < 0
    · rw [cond_t (decide_eq_true h1), if_pos h1, decide_eq_true h1]
      exact ⟨[], by simp [I], ae_nil⟩
    · rw [cond_f (decide_eq_false h1), if_neg h1, decide_eq_false h1]
      rw [wVal_mk]
      refine ⟨_, rfl.trans (by simp only [I, Bool.or_assoc, Bool.false_or]; rfl), ?_⟩
      have h2 := wHi_inI (satV a * 1073741824) (by omega) (by omega)
      have h3 : absV (satV a) = satV a := absV_pos (by omega)
      have h4 : 0 ≤ wHi (satV a * 1073741824) := by unfold wHi; omega
      rw [h3, isI_sat, isU_lo]
      simp only [all_tt, all_ff, isI_iff, Bool.and_eq_true, decide_eq_true_eq, decide_eq_false_iff_not]
      exact ⟨by omega, h2, True.intro, True.intro, ⟨by omega, by omega⟩, by omega, ae_nil⟩
  · cases hF
def sqS : List Int → Int
  | [] => 0
  | a :: l => satV a * satV a + sqS l
theorem sqS_app (l m : List Int) : sqS (l ++ m) = sqS l + sqS m := by
  induction l with
  | nil => simp [sqS]
  | cons a l ih => simp only [List.cons_append, sqS, ih]; omega
theorem sq_bd (a : Int) : 0 ≤ satV a * satV a ∧ satV a * satV a ≤ 1329227995784915872903807060280344576 := by
  have h := satsat a a
  refine ⟨?_, h.2⟩
  by_cases h0 : 0 ≤ satV a
  · exact Int.mul_nonneg h0 h0
  · exact Int.mul_nonneg_of_nonpos_of_nonpos (by omega) (by omega)
theorem sqS_bd (l : List Int) : 0 ≤ sqS l ∧ sqS l ≤ l.length * 1329227995784915872903807060280344576 := by
  induction l with
  | nil => simp [sqS]
  | cons a l ih =>
    have := sq_bd a
    simp only [sqS, List.length_cons]
    push_cast
    omega
noncomputable def hyBd : Code := c1 (c2 (c2 (bodyF Tryz.prog 67)))
def hyA (k : Blk) (o n c : Nat) (h : Bool) (v : Int) (i : Int) : Kst := ⟨[(0, A0), (5, P2), (12, .v (.one (.slx 1 o n c))), (13, .v (.one (.int .i64 n))), (14, .v (.one (.int .i64 i)))], [(0, flag 58 h), (1, k), (2, wB v)], 3⟩
def hyB (k : Blk) (h : Bool) (v : Int) : Kst := ⟨[(0, A0), (5, P2)], [(0, flag 58 h), (1, k), (2, wB v)], 3⟩
theorem hyStep (k : Blk) (o n c : Nat) (xs : List Int) (hlen : xs.length = n) (hat : IntsAt k.cells o xs) (hok : okL noP k.cells = true) (hn : n ≤ 64) (hb : Bool) (i : Nat) (hi : i < n) :
    To Tryz.prog 34 (c1 (c1 (c2 hyBd))) (hyA k o n c (hb || anyH (xs.take i)) (sqS (xs.take i)) i) .normal (hyA k o n c (hb || anyH (xs.take (i + 1))) (sqS (xs.take (i + 1))) ((i : Int) + 1)) := by
  have hi' : i < xs.length := by omega
  have hx := intAt_of (hat i hi')
  have hs := take_snoc xs i hi'
  have b0 := sqS_bd (xs.take i)
  rw [List.length_take] at b0
  have b1 := sq_bd xs[i]
  have hm : ((min i xs.length : Nat) : Int) = i := by omega
  rw [hm] at b0
  have e1 : sqS (xs.take (i + 1)) = sqS (xs.take i) + satV xs[i] * satV xs[i] := by rw [hs, sqS_app]; simp [sqS]
  have e2 : (hb || anyH (xs.take (i + 1))) = ((hb || anyH (xs.take i)) || satH xs[i]) := by rw [hs, anyH_app]; simp [anyH, Bool.or_assoc]
  have e3 : ((i : Int)).toNat * 1 = i := by simp
  have e4 : wr .i64 ((i : Int) + 1) = (i : Int) + 1 := w64_in (by omega) (by omega)
  have hI := isI_sat xs[i]
  obtain ⟨ty, fr, es, l⟩ := k
  rw [e1, e2]
  generalize sqS (xs.take i) = S at *
  have hi2 := wHi_inI S (by omega) (by omega)
  have hl2 := wLo_in S
  have hi3 := wHi_inI (satV xs[i] * satV xs[i]) (by omega) (by omega)
  have hl3 := wLo_in (satV xs[i] * satV xs[i])
  refine To.run (z := Zl) sound17 (slots := [0, 5, 12, 13, 14]) (blks := [0, 1, 2]) (vs := [A0, P2, .v (.one (.slx 1 o n c)), .v (.one (.int .i64 n)), .v (.one (.int .i64 ((i : Int) + 1)))])
    (bs := [flag 58 ((hb || anyH (xs.take i)) || satH xs[i]), ⟨ty, fr, es, l⟩, wB (S + satV xs[i] * satV xs[i])]) (nbB := 3)
    (fun dead => hc dead (hb || anyH (xs.take i)) o n c ty fr es l (wHi S) (wLo S) i) rfl (by rw [e4]; rfl) (by rw [e3, hx.1]; simp only [wVal_mk]; rfl) ?_ (kst_ok rfl (memOK3 (Nat.le_refl _) rfl (okL_mono noP_below hok) rfl)) (Nat.le_refl _)
  rw [e3, hx.1, hx.2, hI]
  simp only [wVal_mk, all_tt, isI_iff, isU_iff, isW_iff, Bool.and_eq_true, decide_eq_true_eq]
  repeat' apply And.intro
  all_goals first | exact ae_nil | exact True.intro | omega
theorem hyEnd (k : Blk) (o n c : Nat) (hok : okL noP k.cells = true) (h : Bool) (v : Int) : To Tryz.prog 34 (c1 (c1 (c2 hyBd))) (hyA k o n c h v n) (.exit 0) (hyB k h v) := by
  obtain ⟨ty, fr, es, l⟩ := k
  refine To.exec (z := Zl) sound17 (slots := [0, 5]) (blks := [0, 1, 2]) (vs := [A0, P2]) (bs := [flag 58 h, ⟨ty, fr, es, l⟩, wB v]) (nbB := 3) (fun dead => hd dead h o n c ty fr es l (wHi v) (wLo v) n) ?_ (kst_ok rfl (memOK3 (Nat.le_refl _) rfl (okL_mono noP_below hok) rfl)) (Nat.le_refl _)
  simp
theorem hyRd (k : Blk) (o n c : Nat) (xs : List Int) (hlen : xs.length = n) (hat : IntsAt k.cells o xs) (hok : okL noP k.cells = true) (hn : n ≤ 64) (hb : Bool) : ∀ (m i : Nat), i + m = n →
    Rd Tryz.prog 34 (c1 (c1 (c2 hyBd))) (m + 1) (hyA k o n c (hb || anyH (xs.take i)) (sqS (xs.take i)) i) (.exit 0) (hyB k (hb || anyH xs) (sqS xs))
  | 0, i, h => by
    have hi : i = n := by omega
    subst hi
    rw [← hlen, List.take_length, hlen]
    exact Rd.last (by simp) (hyEnd k o i c hok _ _)
  | m + 1, i, h => by
    have hs := hyStep k o n c xs hlen hat hok hn hb i (by omega)
    refine Rd.next hs ?_
    exact hyRd k o n c xs hlen hat hok hn hb m (i + 1) (by omega)
def hypV (xs : List Int) : Int := satV (rootW (sqS (xs.take 64)))
def hypH (xs : List Int) : Bool := anyH (xs.take 64) || satH (rootW (sqS (xs.take 64)))
def fhypS : List AV → Bool → Option (LV × Bool × List (Bool × Bool))
  | [.ints xs], hb => some (I (hypV xs), hb || hypH xs, [])
  | _, _ => none
theorem hnil (hb : Bool) : (runF Tryz.prog S17 Zl 2000 67 [A0, .v (.one .nilsl)] [(0, flag 58 hb)] 1 []).map (fun r => (r.1, getM r.2.1 0, r.2.2.2)) = some (I (hypV []), some (flag 58 (hb || hypH [])), [(decide ((0 : Int) < 0), false), (isI 0, true), (isU 0, true)]) := by kernel_rfl
theorem IntsAt.take {l : List At} {o : Nat} {xs : List Int} (h : IntsAt l o xs) (m : Nat) : IntsAt l o (xs.take m) := by
  intro j hj
  rw [List.length_take] at hj
  have := h j (by omega)
  rw [this, List.getElem_take]
theorem sumHyp : SumOK Tryz.prog 67 (acSum 58 1 fhypS) := by
  refine acSum1_ok (own_of sound17 Tryz.func67 (by kernel_rfl)) (fun avs hb r h => ?_) fun pre xs hb v h' cs hF hcc hp hv => ?_
  · unfold fhypS at h
    split at h
    · exact ⟨[], _, rfl⟩
    · cases h
  · have hpre : pre = [] := by
      cases pre with
      | nil => rfl
      | cons p pre =>
        simp only [List.map_cons, List.cons_append] at hF
        unfold fhypS at hF
        split at hF
        · rename_i he; simp at he
        · cases hF
    subst hpre
    have hF' : some (I (hypV xs), hb || hypH xs, []) = some (v, h', cs) := hF
    cases hF'
    refine ⟨fun k o n c hk hnc E w hrel => ?_, fun hx E w hrel => ?_⟩
    · have hlen : xs.length = n := by have := hk.1; omega
      have hok := hk.2.2
      have hat := IntsAt.take hk.2.1 64
      have hlt : (xs.take 64).length = min n 64 := by rw [List.length_take]; omega
      have hR := hyRd k o (min n 64) c (xs.take 64) hlt hat hok (by omega) hb (min n 64) 0 (by omega)
      have b0 := sqS_bd (xs.take 64)
      rw [hlt] at b0
      have hi2 := wHi_inI (sqS (xs.take 64)) (by omega) (by omega)
      have hl2 := wLo_in (sqS (xs.take 64))
      have hh0 : 0 ≤ wHi (sqS (xs.take 64)) := by unfold wHi; omega
      have eI : (if (64 : Int) < ↑n then 64 else (↑n : Int)) = ((min n 64 : Nat) : Int) := by split <;> omega
      have eN : ((min n 64 : Nat) : Int).toNat - (Int.ofNat 0).toNat = min n 64 := by simp
      have eO : (if c = (Int.ofNat 0).toNat then o else o + (Int.ofNat 0).toNat * 1) = o := by split <;> simp
      have eC : c - (Int.ofNat 0).toNat = c := by simp
      obtain ⟨ty, fr, es, l⟩ := k
      refine lcl_of_To (c := bodyF Tryz.prog 67) (e := .ret) (nb := 2) (B := ⟨[(4, .v (.one (.int .i64 (hypV xs))))], [(0, flag 58 (hb || hypH xs)), (1, ⟨ty, fr, es, l⟩)], 3⟩) Tryz.func67 (by kernel_rfl) (Nat.le_of_ble_eq_true (by kernel_rfl)) (Nat.le_of_ble_eq_true (by kernel_rfl))
        (fun u hu => ?_) (memOK2 (Nat.le_refl _) rfl (okL_mono noP_below hok)) ?_ (.inr rfl) (fun dead => by kernel_rfl) rfl (fun i b hib => ?_) E w hrel
      · simp only [List.nil_append, List.mem_cons, List.not_mem_nil, or_false] at hu
        rcases hu with rfl | rfl <;> rfl
      · refine To.spineR (z := Zl) sound17 (k := 2) (slots := [0, 1, 4, 5]) (blks := [0, 1, 2]) (vs := [A0, .v (.one (.slx 1 o n c)), .v (.one (.int .i64 0)), P2]) (bs := [flag 58 hb, ⟨ty, fr, es, l⟩, wB 0]) (nbB := 3) (by kernel_rfl) (fun dead => ha dead hb o n c ty fr es l) rfl rfl rfl (by simp) (kst_ok rfl (memOK3 (Nat.le_refl _) rfl (okL_mono noP_below hok) rfl)) (Nat.le_succ 2) ?_
        refine To.seq (by kernel_rfl) (To.seq (by kernel_rfl) (To.run (z := Zl) sound17 (slots := [0, 5, 12, 13, 14]) (blks := [0, 1, 2]) (vs := [A0, P2, .v (.one (.slx 1 o (min n 64) c)), .v (.one (.int .i64 ((min n 64 : Nat) : Int))), .v (.one (.int .i64 0))]) (bs := [flag 58 hb, ⟨ty, fr, es, l⟩, wB 0]) (nbB := 3) (fun dead => Go.Proofs.YthbkhoknlbomgaaGreat.hb dead hb o n c ty fr es l 0 0) rfl (by simp only [eI, eN, eO, eC]; rfl) rfl ?_ (kst_ok rfl (memOK3 (Nat.le_refl _) rfl (okL_mono noP_below hok) rfl)) (Nat.le_refl _))
          (To.block (id := 0) (by kernel_rfl) (To.loop (m := min n 64 + 1) (by kernel_rfl) ?_) (.inl rfl))) (C := _) (B := hyB ⟨ty, fr, es, l⟩ (hb || anyH (xs.take 64)) (sqS (xs.take 64))) ?_
        · simp only [eI, all_tt, Bool.and_eq_true, decide_eq_true_eq]
          have e0 : Int.ofNat 0 = 0 := rfl
          rw [e0]
          exact ⟨⟨by omega, by omega, by omega⟩, ae_nil⟩
        · have h0 : hyA ⟨ty, fr, es, l⟩ o (min n 64) c (hb || anyH ((xs.take 64).take 0)) (sqS ((xs.take 64).take 0)) ((0 : Nat) : Int) = ⟨[0, 5, 12, 13, 14].zip [A0, P2, .v (.one (.slx 1 o (min n 64) c)), .v (.one (.int .i64 ((min n 64 : Nat) : Int))), .v (.one (.int .i64 0))], [0, 1, 2].zip [flag 58 hb, ⟨ty, fr, es, l⟩, wB 0], 3⟩ := by
            unfold hyA
            simp only [List.take_zero, anyH, Bool.or_false, sqS]
            rfl
          rw [← h0]
          exact hR
        · refine To.run (z := Zl) sound17 (slots := [4]) (blks := [0, 1]) (vs := [.v (.one (.int .i64 (hypV xs)))]) (bs := [flag 58 (hb || hypH xs), ⟨ty, fr, es, l⟩]) (nbB := 3) (fun dead => he dead (hb || anyH (xs.take 64)) ty fr es l (wHi (sqS (xs.take 64))) (wLo (sqS (xs.take 64)))) rfl ?_ ?_ ?_ (kst_ok rfl (memOK2 (Nat.le_succ 2) rfl (okL_mono noP_below hok))) (Nat.le_refl _)
          · rw [wVal_mk]; rfl
          · rw [wVal_mk, Bool.or_assoc]; rfl
          · simp only [all_tt, all_ff, isI_iff, isU_iff, decide_eq_false_iff_not]
            exact ⟨by omega, hi2, hl2, ae_nil⟩
      · rcases get2 hib with ⟨rfl, rfl⟩ | ⟨rfl, rfl⟩
        · exact ⟨rfl, by decide, rfl⟩
        · exact ⟨rfl, by decide, okL_mono noP_below hok⟩
    · subst hx
      have hrun := hnil hb
      cases hq : runF Tryz.prog S17 Zl 2000 67 [A0, .v (.one .nilsl)] [(0, flag 58 hb)] 1 [] with
      | none => rw [hq] at hrun; cases hrun
      | some q =>
        obtain ⟨v', m2, nb', cs'⟩ := q
        rw [hq] at hrun
        simp only [Option.map_some, Option.some.injEq, Prod.mk.injEq] at hrun
        obtain ⟨rfl, hm2, rfl⟩ := hrun
        exact lcl_of_run sound17 hq (m' := [(0, flag 58 (hb || hypH []))]) (fun i c hic => by
            obtain ⟨rfl, rfl⟩ := get1 hic
            exact ⟨hm2, Nat.zero_lt_one, rfl⟩) (ae_cons rfl (ae_cons rfl (ae_cons rfl ae_nil))) rfl (fun a ha => by
            simp only [List.mem_cons, List.not_mem_nil, or_false] at ha
            rcases ha with rfl | rfl <;> rfl) rfl E w hrel
def S18 : FuncId → Option SumK := more (more S17 43 (accSum 58 fsqrtS)) 67 (acSum 58 1 fhypS)
theorem sound18 : Sound Tryz.prog S18 := (sound17.more sumSqrt).more sumHyp
end Go.Proofs.YthbkhoknlbomgaaGreat
