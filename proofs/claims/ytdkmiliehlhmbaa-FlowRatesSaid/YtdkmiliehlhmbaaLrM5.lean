/- Joined texts. What each part proves stands ahead of it; no condition. -/
import Derived.Test.YtdkmiliehlhmbaaLrM4
import Derived.Test.YtdkmiliehlhmbaaLrM2

/- The second reference's division, bit by bit: its walk, and what it comes to. -/
namespace Go.Proofs.Ytdkmiliehlhmbaa
open Go.Lr
set_option linter.unusedVariables false
set_option linter.unusedSimpArgs false

theorem rvA (dead : Nat → Value) (x y : Int) (n : Bool) (d : Int) : projS [1,2,4,5,6] [0,1,2] (execL Try.prog R3S Zl 400 (spineL 3 (bodyF Try.prog 35)) (Kst.st ⟨argsL 0 [.v (.agg [.int .u64 x, .int .u64 y, .bool n]), .v (.one (.int .u64 d))], [], 0⟩ 71 dead [])) = some (Ex.normal, [LV.v (V1.one (At.int IntKind.u64 d)), LV.v (V1.one (At.ptr 0 0)), LV.v (V1.one (At.ptr 1 0)), LV.v (V1.one (At.ptr 2 0)), LV.v (V1.one (At.int IntKind.u64 0))], [some { ty := 78, fr := (0, 0), es := 0, cells := [At.int IntKind.u64 x, At.int IntKind.u64 y, At.bool n] }, some { ty := 78, fr := (0, 0), es := 0, cells := [At.int IntKind.u64 0, At.int IntKind.u64 0, At.bool false] }, some { ty := 78, fr := (0, 0), es := 0, cells := [At.int IntKind.u64 0, At.int IntKind.u64 0, At.bool n] }], []) := by kernel_rfl
theorem rvB (dead : Nat → Value) (x y : Int) (n : Bool) (d r p q : Int) : projS [1,2,4,5,6,7] [0,1,2] (exec Try.prog R3S Zl 400 (.code (c1 (c1 (c2 (c2 (c2 (bodyF Try.prog 35))))))) (Kst.st ⟨[(1, .v (.one (.int .u64 d))), (2, .v (.one (.ptr 0 0))), (4, .v (.one (.ptr 1 0))), (5, .v (.one (.ptr 2 0))), (6, .v (.one (.int .u64 r)))], [(0, ⟨78, (0,0), 0, [.int .u64 x, .int .u64 y, .bool n]⟩), (1, ⟨78, (0,0), 0, [.int .u64 0, .int .u64 0, .bool false]⟩), (2, ⟨78, (0,0), 0, [.int .u64 p, .int .u64 q, .bool n]⟩)], 3⟩ 71 dead [])) = some (Ex.normal, [LV.v (V1.one (At.int IntKind.u64 d)), LV.v (V1.one (At.ptr 0 0)), LV.v (V1.one (At.ptr 1 0)), LV.v (V1.one (At.ptr 2 0)), LV.v (V1.one (At.int IntKind.u64 r)), LV.v (V1.one (At.int IntKind.i64 127))], [some { ty := 78, fr := (0, 0), es := 0, cells := [At.int IntKind.u64 x, At.int IntKind.u64 y, At.bool n] }, some { ty := 78, fr := (0, 0), es := 0, cells := [At.int IntKind.u64 0, At.int IntKind.u64 0, At.bool false] }, some { ty := 78, fr := (0, 0), es := 0, cells := [At.int IntKind.u64 p, At.int IntKind.u64 q, At.bool n] }], []) := by kernel_rfl
theorem rvHt (dead : Nat → Value) (x y : Int) (n : Bool) (d r p q i : Int) : projS [1,2,4,5,6,7] [0,1,2] (exec Try.prog R3S Zl 400 (.code (c1 (c1 (c2 (c1 (c2 (c2 (c2 (bodyF Try.prog 35))))))))) (Kst.st ⟨[(1, .v (.one (.int .u64 d))), (2, .v (.one (.ptr 0 0))), (4, .v (.one (.ptr 1 0))), (5, .v (.one (.ptr 2 0))), (6, .v (.one (.int .u64 r))), (7, .v (.one (.int .i64 i)))], [(0, ⟨78, (0,0), 0, [.int .u64 x, .int .u64 y, .bool n]⟩), (1, ⟨78, (0,0), 0, [.int .u64 0, .int .u64 0, .bool false]⟩), (2, ⟨78, (0,0), 0, [.int .u64 p, .int .u64 q, .bool n]⟩)], 3⟩ 71 dead [some true, some true, some true, some true])) = some (Ex.normal, [LV.v (V1.one (At.int IntKind.u64 d)), LV.v (V1.one (At.ptr 0 0)), LV.v (V1.one (At.ptr 1 0)), LV.v (V1.one (At.ptr 2 0)), LV.v (V1.one (At.int IntKind.u64 (wr IntKind.u64 (Int.ofNat ((u64 (wr IntKind.u64 (r * pow2 (min (Int.toNat 1) IntKind.u64.bits)))).toNat.lor (u64 (Int.ofNat ((u64 (x / pow2 (min (wr IntKind.u64 (w64 (Int.ofNat ((u64 i).toNat.land (u64 63).toNat)))).toNat IntKind.u64.bits))).toNat.land (u64 1).toNat))).toNat) - d)))), LV.v (V1.one (At.int IntKind.i64 (wr IntKind.i64 (i - 1))))], [some { ty := 78, fr := (0, 0), es := 0, cells := [At.int IntKind.u64 x, At.int IntKind.u64 y, At.bool n] }, some { ty := 78, fr := (0, 0), es := 0, cells := [At.int IntKind.u64 0, At.int IntKind.u64 0, At.bool false] }, some { ty := 78, fr := (0, 0), es := 0, cells := [At.int IntKind.u64 (Int.ofNat ((u64 p).toNat.lor (u64 (wr IntKind.u64 (1 * pow2 (min (wr IntKind.u64 (w64 (Int.ofNat ((u64 i).toNat.land (u64 63).toNat)))).toNat IntKind.u64.bits)))).toNat)), At.int IntKind.u64 q, At.bool n] }], [(decide (wr IntKind.u64 (w64 (Int.ofNat ((u64 i).toNat.land (u64 63).toNat))) < 0), false), (decide (i ≥ 64), true), (decide (Int.ofNat ((u64 (wr IntKind.u64 (r * pow2 (min (Int.toNat 1) IntKind.u64.bits)))).toNat.lor (u64 (Int.ofNat ((u64 (x / pow2 (min (wr IntKind.u64 (w64 (Int.ofNat ((u64 i).toNat.land (u64 63).toNat)))).toNat IntKind.u64.bits))).toNat.land (u64 1).toNat))).toNat) ≥ d), true), (decide (wr IntKind.u64 (w64 (Int.ofNat ((u64 i).toNat.land (u64 63).toNat))) < 0), false), (decide (i ≥ 64), true), (decide (wr IntKind.u64 (w64 (Int.ofNat ((u64 i).toNat.land (u64 63).toNat))) < 0), false), (decide (i ≥ 0), true)]) := by kernel_rfl
theorem rvHf (dead : Nat → Value) (x y : Int) (n : Bool) (d r p q i : Int) : projS [1,2,4,5,6,7] [0,1,2] (exec Try.prog R3S Zl 400 (.code (c1 (c1 (c2 (c1 (c2 (c2 (c2 (bodyF Try.prog 35))))))))) (Kst.st ⟨[(1, .v (.one (.int .u64 d))), (2, .v (.one (.ptr 0 0))), (4, .v (.one (.ptr 1 0))), (5, .v (.one (.ptr 2 0))), (6, .v (.one (.int .u64 r))), (7, .v (.one (.int .i64 i)))], [(0, ⟨78, (0,0), 0, [.int .u64 x, .int .u64 y, .bool n]⟩), (1, ⟨78, (0,0), 0, [.int .u64 0, .int .u64 0, .bool false]⟩), (2, ⟨78, (0,0), 0, [.int .u64 p, .int .u64 q, .bool n]⟩)], 3⟩ 71 dead [some true, some true, some false])) = some (Ex.normal, [LV.v (V1.one (At.int IntKind.u64 d)), LV.v (V1.one (At.ptr 0 0)), LV.v (V1.one (At.ptr 1 0)), LV.v (V1.one (At.ptr 2 0)), LV.v (V1.one (At.int IntKind.u64 (Int.ofNat ((u64 (wr IntKind.u64 (r * pow2 (min (Int.toNat 1) IntKind.u64.bits)))).toNat.lor (u64 (Int.ofNat ((u64 (x / pow2 (min (wr IntKind.u64 (w64 (Int.ofNat ((u64 i).toNat.land (u64 63).toNat)))).toNat IntKind.u64.bits))).toNat.land (u64 1).toNat))).toNat)))), LV.v (V1.one (At.int IntKind.i64 (wr IntKind.i64 (i - 1))))], [some { ty := 78, fr := (0, 0), es := 0, cells := [At.int IntKind.u64 x, At.int IntKind.u64 y, At.bool n] }, some { ty := 78, fr := (0, 0), es := 0, cells := [At.int IntKind.u64 0, At.int IntKind.u64 0, At.bool false] }, some { ty := 78, fr := (0, 0), es := 0, cells := [At.int IntKind.u64 p, At.int IntKind.u64 q, At.bool n] }], [(decide (Int.ofNat ((u64 (wr IntKind.u64 (r * pow2 (min (Int.toNat 1) IntKind.u64.bits)))).toNat.lor (u64 (Int.ofNat ((u64 (x / pow2 (min (wr IntKind.u64 (w64 (Int.ofNat ((u64 i).toNat.land (u64 63).toNat)))).toNat IntKind.u64.bits))).toNat.land (u64 1).toNat))).toNat) ≥ d), false), (decide (wr IntKind.u64 (w64 (Int.ofNat ((u64 i).toNat.land (u64 63).toNat))) < 0), false), (decide (i ≥ 64), true), (decide (wr IntKind.u64 (w64 (Int.ofNat ((u64 i).toNat.land (u64 63).toNat))) < 0), false), (decide (i ≥ 0), true)]) := by kernel_rfl
theorem rvLt (dead : Nat → Value) (x y : Int) (n : Bool) (d r p q i : Int) : projS [1,2,4,5,6,7] [0,1,2] (exec Try.prog R3S Zl 400 (.code (c1 (c1 (c2 (c1 (c2 (c2 (c2 (bodyF Try.prog 35))))))))) (Kst.st ⟨[(1, .v (.one (.int .u64 d))), (2, .v (.one (.ptr 0 0))), (4, .v (.one (.ptr 1 0))), (5, .v (.one (.ptr 2 0))), (6, .v (.one (.int .u64 r))), (7, .v (.one (.int .i64 i)))], [(0, ⟨78, (0,0), 0, [.int .u64 x, .int .u64 y, .bool n]⟩), (1, ⟨78, (0,0), 0, [.int .u64 0, .int .u64 0, .bool false]⟩), (2, ⟨78, (0,0), 0, [.int .u64 p, .int .u64 q, .bool n]⟩)], 3⟩ 71 dead [some true, some false, some true, some false])) = some (Ex.normal, [LV.v (V1.one (At.int IntKind.u64 d)), LV.v (V1.one (At.ptr 0 0)), LV.v (V1.one (At.ptr 1 0)), LV.v (V1.one (At.ptr 2 0)), LV.v (V1.one (At.int IntKind.u64 (wr IntKind.u64 (Int.ofNat ((u64 (wr IntKind.u64 (r * pow2 (min (Int.toNat 1) IntKind.u64.bits)))).toNat.lor (u64 (Int.ofNat ((u64 (y / pow2 (min (wr IntKind.u64 (w64 (Int.ofNat ((u64 i).toNat.land (u64 63).toNat)))).toNat IntKind.u64.bits))).toNat.land (u64 1).toNat))).toNat) - d)))), LV.v (V1.one (At.int IntKind.i64 (wr IntKind.i64 (i - 1))))], [some { ty := 78, fr := (0, 0), es := 0, cells := [At.int IntKind.u64 x, At.int IntKind.u64 y, At.bool n] }, some { ty := 78, fr := (0, 0), es := 0, cells := [At.int IntKind.u64 0, At.int IntKind.u64 0, At.bool false] }, some { ty := 78, fr := (0, 0), es := 0, cells := [At.int IntKind.u64 p, At.int IntKind.u64 (Int.ofNat ((u64 q).toNat.lor (u64 (wr IntKind.u64 (1 * pow2 (min (wr IntKind.u64 (w64 (Int.ofNat ((u64 i).toNat.land (u64 63).toNat)))).toNat IntKind.u64.bits)))).toNat)), At.bool n] }], [(decide (wr IntKind.u64 (w64 (Int.ofNat ((u64 i).toNat.land (u64 63).toNat))) < 0), false), (decide (i ≥ 64), false), (decide (Int.ofNat ((u64 (wr IntKind.u64 (r * pow2 (min (Int.toNat 1) IntKind.u64.bits)))).toNat.lor (u64 (Int.ofNat ((u64 (y / pow2 (min (wr IntKind.u64 (w64 (Int.ofNat ((u64 i).toNat.land (u64 63).toNat)))).toNat IntKind.u64.bits))).toNat.land (u64 1).toNat))).toNat) ≥ d), true), (decide (i ≥ 64), false), (decide (wr IntKind.u64 (w64 (Int.ofNat ((u64 i).toNat.land (u64 63).toNat))) < 0), false), (decide (i ≥ 0), true)]) := by kernel_rfl
theorem rvLf (dead : Nat → Value) (x y : Int) (n : Bool) (d r p q i : Int) : projS [1,2,4,5,6,7] [0,1,2] (exec Try.prog R3S Zl 400 (.code (c1 (c1 (c2 (c1 (c2 (c2 (c2 (bodyF Try.prog 35))))))))) (Kst.st ⟨[(1, .v (.one (.int .u64 d))), (2, .v (.one (.ptr 0 0))), (4, .v (.one (.ptr 1 0))), (5, .v (.one (.ptr 2 0))), (6, .v (.one (.int .u64 r))), (7, .v (.one (.int .i64 i)))], [(0, ⟨78, (0,0), 0, [.int .u64 x, .int .u64 y, .bool n]⟩), (1, ⟨78, (0,0), 0, [.int .u64 0, .int .u64 0, .bool false]⟩), (2, ⟨78, (0,0), 0, [.int .u64 p, .int .u64 q, .bool n]⟩)], 3⟩ 71 dead [some true, some false, some false])) = some (Ex.normal, [LV.v (V1.one (At.int IntKind.u64 d)), LV.v (V1.one (At.ptr 0 0)), LV.v (V1.one (At.ptr 1 0)), LV.v (V1.one (At.ptr 2 0)), LV.v (V1.one (At.int IntKind.u64 (Int.ofNat ((u64 (wr IntKind.u64 (r * pow2 (min (Int.toNat 1) IntKind.u64.bits)))).toNat.lor (u64 (Int.ofNat ((u64 (y / pow2 (min (wr IntKind.u64 (w64 (Int.ofNat ((u64 i).toNat.land (u64 63).toNat)))).toNat IntKind.u64.bits))).toNat.land (u64 1).toNat))).toNat)))), LV.v (V1.one (At.int IntKind.i64 (wr IntKind.i64 (i - 1))))], [some { ty := 78, fr := (0, 0), es := 0, cells := [At.int IntKind.u64 x, At.int IntKind.u64 y, At.bool n] }, some { ty := 78, fr := (0, 0), es := 0, cells := [At.int IntKind.u64 0, At.int IntKind.u64 0, At.bool false] }, some { ty := 78, fr := (0, 0), es := 0, cells := [At.int IntKind.u64 p, At.int IntKind.u64 q, At.bool n] }], [(decide (Int.ofNat ((u64 (wr IntKind.u64 (r * pow2 (min (Int.toNat 1) IntKind.u64.bits)))).toNat.lor (u64 (Int.ofNat ((u64 (y / pow2 (min (wr IntKind.u64 (w64 (Int.ofNat ((u64 i).toNat.land (u64 63).toNat)))).toNat IntKind.u64.bits))).toNat.land (u64 1).toNat))).toNat) ≥ d), false), (decide (i ≥ 64), false), (decide (wr IntKind.u64 (w64 (Int.ofNat ((u64 i).toNat.land (u64 63).toNat))) < 0), false), (decide (i ≥ 0), true)]) := by kernel_rfl
theorem rvE (dead : Nat → Value) (x y : Int) (n : Bool) (d r p q i : Int) : projS [1,2,4,5,6] [0,1,2] (exec Try.prog R3S Zl 400 (.code (c1 (c1 (c2 (c1 (c2 (c2 (c2 (bodyF Try.prog 35))))))))) (Kst.st ⟨[(1, .v (.one (.int .u64 d))), (2, .v (.one (.ptr 0 0))), (4, .v (.one (.ptr 1 0))), (5, .v (.one (.ptr 2 0))), (6, .v (.one (.int .u64 r))), (7, .v (.one (.int .i64 i)))], [(0, ⟨78, (0,0), 0, [.int .u64 x, .int .u64 y, .bool n]⟩), (1, ⟨78, (0,0), 0, [.int .u64 0, .int .u64 0, .bool false]⟩), (2, ⟨78, (0,0), 0, [.int .u64 p, .int .u64 q, .bool n]⟩)], 3⟩ 71 dead [some false])) = some (Ex.exit 0, [LV.v (V1.one (At.int IntKind.u64 d)), LV.v (V1.one (At.ptr 0 0)), LV.v (V1.one (At.ptr 1 0)), LV.v (V1.one (At.ptr 2 0)), LV.v (V1.one (At.int IntKind.u64 r))], [some { ty := 78, fr := (0, 0), es := 0, cells := [At.int IntKind.u64 x, At.int IntKind.u64 y, At.bool n] }, some { ty := 78, fr := (0, 0), es := 0, cells := [At.int IntKind.u64 0, At.int IntKind.u64 0, At.bool false] }, some { ty := 78, fr := (0, 0), es := 0, cells := [At.int IntKind.u64 p, At.int IntKind.u64 q, At.bool n] }], [(decide (i ≥ 0), false)]) := by kernel_rfl
theorem rvFt (dead : Nat → Value) (x y : Int) (n : Bool) (d r p q : Int) : projS [4] [1] (exec Try.prog R3S Zl 400 (.code (c2 (c2 (c2 (c2 (bodyF Try.prog 35)))))) (Kst.st ⟨[(1, .v (.one (.int .u64 d))), (2, .v (.one (.ptr 0 0))), (4, .v (.one (.ptr 1 0))), (5, .v (.one (.ptr 2 0))), (6, .v (.one (.int .u64 r)))], [(0, ⟨78, (0,0), 0, [.int .u64 x, .int .u64 y, .bool n]⟩), (1, ⟨78, (0,0), 0, [.int .u64 0, .int .u64 0, .bool false]⟩), (2, ⟨78, (0,0), 0, [.int .u64 p, .int .u64 q, .bool n]⟩)], 3⟩ 71 dead [some true])) = some (Ex.ret, [LV.v (V1.one (At.ptr 1 0))], [some { ty := 78, fr := (0, 0), es := 0, cells := [At.int IntKind.u64 (wHi (addM (wVal p q) n (wVal 0 1) n)), At.int IntKind.u64 (wLo (addM (wVal p q) n (wVal 0 1) n)), At.bool (addN (wVal p q) n (wVal 0 1) n)] }], [(isU p, true), (isU q, true), (isU 0, true), (isU 1, true), (decide (wVal p q + wVal 0 1 < 340282366920938463463374607431768211456), true), (decide (r ≥ wr IntKind.u64 (d - r)), true)]) := by kernel_rfl
theorem rvFf (dead : Nat → Value) (x y : Int) (n : Bool) (d r p q : Int) : projS [4] [1] (exec Try.prog R3S Zl 400 (.code (c2 (c2 (c2 (c2 (bodyF Try.prog 35)))))) (Kst.st ⟨[(1, .v (.one (.int .u64 d))), (2, .v (.one (.ptr 0 0))), (4, .v (.one (.ptr 1 0))), (5, .v (.one (.ptr 2 0))), (6, .v (.one (.int .u64 r)))], [(0, ⟨78, (0,0), 0, [.int .u64 x, .int .u64 y, .bool n]⟩), (1, ⟨78, (0,0), 0, [.int .u64 0, .int .u64 0, .bool false]⟩), (2, ⟨78, (0,0), 0, [.int .u64 p, .int .u64 q, .bool n]⟩)], 3⟩ 71 dead [some false])) = some (Ex.ret, [LV.v (V1.one (At.ptr 1 0))], [some { ty := 78, fr := (0, 0), es := 0, cells := [At.int IntKind.u64 p, At.int IntKind.u64 q, At.bool n] }], [(decide (r ≥ wr IntKind.u64 (d - r)), false)]) := by kernel_rfl

theorem land63 (x : Int) (h0 : 0 ≤ x) (h1 : x < 18446744073709551616) : Int.ofNat ((u64 x).toNat.land (u64 63).toNat) = x % 64 := by
  have e : (u64 63).toNat = 2 ^ 6 - 1 := by decide
  rw [u64_in h0 h1, e]
  show ((x.toNat &&& (2 ^ 6 - 1) : Nat) : Int) = _
  rw [Nat.and_two_pow_sub_one_eq_mod]
  omega
theorem land1 (x : Int) (h0 : 0 ≤ x) (h1 : x < 18446744073709551616) : Int.ofNat ((u64 x).toNat.land (u64 1).toNat) = x % 2 := by
  have e : (u64 1).toNat = 2 ^ 1 - 1 := by decide
  rw [u64_in h0 h1, e]
  show ((x.toNat &&& (2 ^ 1 - 1) : Nat) : Int) = _
  rw [Nat.and_two_pow_sub_one_eq_mod]
  omega
theorem idx63 (i : Int) (h0 : 0 ≤ i) (h1 : i < 128) : wr IntKind.u64 (w64 (Int.ofNat ((u64 i).toNat.land (u64 63).toNat))) = i % 64 := by
  rw [land63 i h0 (by omega), wr_u]
  unfold u64 w64; omega
theorem pshift {j : Int} (h0 : 0 ≤ j) (h1 : j < 64) : pow2 (min j.toNat IntKind.u64.bits) = pow2 j.toNat := by rw [min64 h0 (by omega)]
theorem lorBit {r b : Int} (h0 : 0 ≤ r) (h1 : r < 9223372036854775808) (b0 : 0 ≤ b) (b1 : b ≤ 1) :
    Int.ofNat ((u64 (wr IntKind.u64 (r * pow2 (min (Int.toNat 1) IntKind.u64.bits)))).toNat.lor (u64 b).toNat) = 2 * r + b := by
  have hp : pow2 (min (Int.toNat 1) IntKind.u64.bits) = pow2 1 := by decide
  have hp2 : pow2 1 = 2 := rfl
  have e := (ior_add r b 1 h0 b0 (by rw [hp2]; omega) (by rw [hp2]; omega)).1
  rw [hp, wr_u, u64_in (x := r * pow2 1) (by rw [hp2]; omega) (by rw [hp2]; omega), e, hp2]
  omega
theorem div_pow_add (A : Int) (m n : Nat) : A / pow2 m / pow2 n = A / pow2 (m + n) := by
  rw [pow2_add, Int.ediv_ediv_of_nonneg (Int.le_of_lt (pow2_pos m))]
theorem bit_hi (A : Int) (j : Nat) : wHi A / pow2 j % 2 = A / pow2 (j + 64) % 2 := by
  unfold wHi
  rw [← pow2_64, div_pow_add, Nat.add_comm]
theorem bit_lo (A : Int) (j : Nat) (hj : j < 64) : wLo A / pow2 j % 2 = A / pow2 j % 2 := by
  unfold wLo
  have hp := pow2_pos j
  have hs : (18446744073709551616 : Int) = pow2 j * (2 * pow2 (63 - j)) := by
    rw [← pow2_succ, ← pow2_add, ← pow2_64]; congr 1; omega
  have h1 := Int.emod_add_mul_ediv A 18446744073709551616
  have h2 : A = A % 18446744073709551616 + pow2 j * (2 * pow2 (63 - j) * (A / 18446744073709551616)) := by
    rw [← Int.mul_assoc, ← hs]; omega
  have h3 : A / pow2 j = A % 18446744073709551616 / pow2 j + 2 * pow2 (63 - j) * (A / 18446744073709551616) := by
    conv => lhs; rw [h2]
    rw [Int.add_mul_ediv_left _ _ (by omega)]
  rw [h3, Int.mul_assoc]; omega
/-- One more bit. -/
theorem rv_step (A d : Int) (k : Nat) (hd : 0 < d) : A / pow2 k = 2 * (A / pow2 (k + 1)) + A / pow2 k % 2 ∧ 0 ≤ A / pow2 k % 2 ∧ A / pow2 k % 2 ≤ 1 ∧
    (2 * (A / pow2 (k + 1) % d) + A / pow2 k % 2 < d → A / pow2 k / d = 2 * (A / pow2 (k + 1) / d) ∧ A / pow2 k % d = 2 * (A / pow2 (k + 1) % d) + A / pow2 k % 2) ∧
    (¬ 2 * (A / pow2 (k + 1) % d) + A / pow2 k % 2 < d → A / pow2 k / d = 2 * (A / pow2 (k + 1) / d) + 1 ∧ A / pow2 k % d = 2 * (A / pow2 (k + 1) % d) + A / pow2 k % 2 - d) := by
  have e1 : A / pow2 (k + 1) = A / pow2 k / 2 := by have := div_pow_add A k 1; rw [← this]; rfl
  have hq := Int.emod_add_mul_ediv (A / pow2 (k + 1)) d
  have h0 := Int.emod_nonneg (A / pow2 (k + 1)) (show d ≠ 0 by omega)
  have h1 := Int.emod_lt_of_pos (A / pow2 (k + 1)) hd
  generalize A / pow2 k = a0 at *
  generalize A / pow2 (k + 1) = a1 at *
  generalize a1 / d = Q at *
  generalize a1 % d = r at *
  have e2 : a0 = 2 * a1 + a0 % 2 := by omega
  have e3 : 2 * a1 = 2 * Q * d + 2 * r := by rw [← hq]; grind
  refine ⟨e2, by omega, by omega, fun h => ?_, fun h => ?_⟩
  · have e4 : a0 = 2 * Q * d + (2 * r + a0 % 2) := by omega
    exact ⟨ediv_unique e4 (by omega) h, emod_unique e4 (by omega) h⟩
  · have e5 : (2 * Q + 1) * d = 2 * Q * d + d := by grind
    have e4 : a0 = (2 * Q + 1) * d + (2 * r + a0 % 2 - d) := by omega
    exact ⟨ediv_unique e4 (by omega) (by omega), emod_unique e4 (by omega) (by omega)⟩

theorem orb_hi (Q : Int) (j : Nat) (hQ : 0 ≤ Q) (hV : Q * pow2 (j + 64 + 1) + pow2 (j + 64) < 340282366920938463463374607431768211456) :
    Int.ofNat ((u64 (wHi (Q * pow2 (j + 64 + 1)))).toNat.lor (u64 (wr IntKind.u64 (1 * pow2 j))).toNat) = wHi (Q * pow2 (j + 64 + 1) + pow2 (j + 64)) ∧ wLo (Q * pow2 (j + 64 + 1)) = wLo (Q * pow2 (j + 64 + 1) + pow2 (j + 64)) := by
  have e1 : pow2 (j + 64) = pow2 j * 18446744073709551616 := by rw [pow2_add, pow2_64]
  have e2 : pow2 (j + 64 + 1) = pow2 (j + 1) * 18446744073709551616 := by rw [show j + 64 + 1 = (j + 1) + 64 by omega, pow2_add, pow2_64]
  have hp := pow2_pos j
  have hs := pow2_succ j
  rw [e1, e2] at hV ⊢
  have e3 : Q * (pow2 (j + 1) * 18446744073709551616) = Q * pow2 (j + 1) * 18446744073709551616 := by rw [Int.mul_assoc]
  rw [e3] at hV ⊢
  have hnn : 0 ≤ Q * pow2 (j + 1) := Int.mul_nonneg hQ (by omega)
  have hw : wHi (Q * pow2 (j + 1) * 18446744073709551616) = Q * pow2 (j + 1) := by unfold wHi; omega
  have e4 := (ior_add Q (pow2 j) (j + 1) hQ (by omega) (by omega) (by omega)).1
  rw [hw, wr_u, Int.one_mul, u64_in (x := pow2 j) (by omega) (by omega), e4]
  refine ⟨?_, ?_⟩
  · unfold wHi; omega
  · unfold wLo; omega
theorem orb_lo (Q : Int) (j : Nat) (hj : j < 64) (hQ : 0 ≤ Q) :
    Int.ofNat ((u64 (wLo (Q * pow2 (j + 1)))).toNat.lor (u64 (wr IntKind.u64 (1 * pow2 j))).toNat) = wLo (Q * pow2 (j + 1) + pow2 j) ∧ wHi (Q * pow2 (j + 1)) = wHi (Q * pow2 (j + 1) + pow2 j) := by
  have hp := pow2_pos j
  have hs := pow2_succ j
  have hm : (18446744073709551616 : Int) = pow2 (j + 1) * pow2 (63 - j) := by rw [← pow2_add, ← pow2_64]; congr 1; omega
  have hp2 := pow2_pos (63 - j)
  have hq := Int.emod_add_mul_ediv Q (pow2 (63 - j))
  have h0 := Int.emod_nonneg Q (show pow2 (63 - j) ≠ 0 by omega)
  have h1 := Int.emod_lt_of_pos Q hp2
  generalize Q % pow2 (63 - j) = u at *
  generalize Q / pow2 (63 - j) = v at *
  have e1 : Q * pow2 (j + 1) = v * 18446744073709551616 + u * pow2 (j + 1) := by rw [hm, ← hq]; grind
  have hu0 : 0 ≤ u * pow2 (j + 1) := Int.mul_nonneg h0 (by omega)
  have hu1 : u * pow2 (j + 1) ≤ 18446744073709551616 - pow2 (j + 1) := by
    have : u * pow2 (j + 1) ≤ (pow2 (63 - j) - 1) * pow2 (j + 1) := Int.mul_le_mul_of_nonneg_right (by omega) (by omega)
    have e : (pow2 (63 - j) - 1) * pow2 (j + 1) = pow2 (j + 1) * pow2 (63 - j) - pow2 (j + 1) := by grind
    omega
  have e2 : wLo (Q * pow2 (j + 1)) = u * pow2 (j + 1) := by rw [e1]; unfold wLo; omega
  have e4 := (ior_add u (pow2 j) (j + 1) h0 (by omega) (by omega) (by omega)).1
  rw [e2, wr_u, Int.one_mul, u64_in (x := pow2 j) (by omega) (by omega), e4, e1]
  refine ⟨?_, ?_⟩
  · unfold wLo; omega
  · unfold wHi; omega

noncomputable def rvBd : Code := c1 (c2 (c2 (c2 (bodyF Try.prog 35))))
def wideB (v : Int) (n : Bool) : Blk := ⟨78, (0, 0), 0, [.int .u64 (wHi v), .int .u64 (wLo v), .bool n]⟩
def zeroB : Blk := ⟨78, (0, 0), 0, [.int .u64 0, .int .u64 0, .bool false]⟩
def rvSA (A : Int) (n : Bool) (d r V i : Int) : Kst := ⟨[(1, .v (.one (.int .u64 d))), (2, .v (.one (.ptr 0 0))), (4, .v (.one (.ptr 1 0))), (5, .v (.one (.ptr 2 0))), (6, .v (.one (.int .u64 r))), (7, .v (.one (.int .i64 i)))], [(0, wideB A n), (1, zeroB), (2, wideB V n)], 3⟩
def rvSB (A : Int) (n : Bool) (d r V : Int) : Kst := ⟨[(1, .v (.one (.int .u64 d))), (2, .v (.one (.ptr 0 0))), (4, .v (.one (.ptr 1 0))), (5, .v (.one (.ptr 2 0))), (6, .v (.one (.int .u64 r)))], [(0, wideB A n), (1, zeroB), (2, wideB V n)], 3⟩
theorem vs6 {a b c e : LV} {x x' y y' : Int} (h1 : x = x') (h2 : y = y') : [a, b, c, e, LV.v (V1.one (At.int .u64 x)), LV.v (V1.one (At.int .i64 y))] = [a, b, c, e, LV.v (V1.one (At.int .u64 x')), LV.v (V1.one (At.int .i64 y'))] := by subst h1; subst h2; rfl

theorem rvsLf (A d : Int) (n : Bool) (r b V : Int) (k : Nat) (hk : k < 64) (hW0 : 0 ≤ wLo A) (hW1 : wLo A < 18446744073709551616) (hb : wLo A / pow2 k % 2 = b) (r0 : 0 ≤ r) (r1 : r < 9223372036854775808) (d0 : 0 < d) (d1 : d ≤ 9223372036854775808) (hc : 2 * r + b < d) :
    To Try.prog 71 (c1 (c1 (c2 rvBd))) (rvSA A n d r V (k : Int)) .normal (rvSA A n d (2 * r + b) V ((k : Int) - 1)) := by
  have b0 : 0 ≤ b := by rw [← hb]; exact Int.emod_nonneg _ (by decide)
  have b1 : b ≤ 1 := by have := Int.emod_lt_of_pos (wLo A / pow2 k) (show (0 : Int) < 2 by decide); rw [hb] at this; exact Int.le_of_lt_add_one this
  have hJ : wr IntKind.u64 (w64 (Int.ofNat ((u64 (k : Int)).toNat.land (u64 63).toNat))) = (k : Int) := by rw [idx63 _ (by omega) (by omega)]; omega
  have hP : pow2 (min ((k : Int)).toNat IntKind.u64.bits) = pow2 k := by rw [pshift (by omega) (by omega)]; congr 1
  have hp := pow2_pos k
  have hI : wr IntKind.i64 ((k : Int) - 1) = (k : Int) - 1 := w64s (by omega) (by omega)
  have hL : Int.ofNat ((u64 (wLo A / pow2 k)).toNat.land (u64 1).toNat) = b := by
    have g1 : 0 ≤ wLo A / pow2 k := Int.ediv_nonneg hW0 (Int.le_of_lt hp)
    have g2 : wLo A / pow2 k ≤ wLo A := Int.ediv_le_self _ hW0
    rw [land1 _ g1 (Int.lt_of_le_of_lt g2 hW1), hb]
  have hO := lorBit (r := r) (b := b) r0 r1 b0 b1
  refine To.run (z := Zl) soundR3 (slots := [1, 2, 4, 5, 6, 7]) (blks := [0, 1, 2]) (vs := [.v (.one (.int .u64 d)), .v (.one (.ptr 0 0)), .v (.one (.ptr 1 0)), .v (.one (.ptr 2 0)), .v (.one (.int .u64 (2 * r + b))), .v (.one (.int .i64 ((k : Int) - 1)))]) (bs := [wideB A n, zeroB, wideB V n]) (nbB := 3) (fun dead => rvLf dead (wHi A) (wLo A) n d r (wHi V) (wLo V) (k : Int)) rfl ?_ ?_ ?_ (canB_ok (by rfl)) (Nat.le_refl _)
  · exact vs6 (by rw [hJ, hP, hL, hO]) hI
  · rfl
  · rw [hJ, hP, hL, hO]
    simp only [all_tt, all_ff, decide_eq_true_eq, decide_eq_false_iff_not]
    repeat' apply And.intro
    all_goals first | exact ae_nil | omega
theorem rvsLt (A d : Int) (n : Bool) (r b V V2 : Int) (k : Nat) (hk : k < 64) (hW0 : 0 ≤ wLo A) (hW1 : wLo A < 18446744073709551616) (hb : wLo A / pow2 k % 2 = b) (r0 : 0 ≤ r) (r1 : r < 9223372036854775808) (d0 : 0 < d) (d1 : d ≤ 9223372036854775808) (hc : ¬ 2 * r + b < d) (h1 : Int.ofNat ((u64 (wLo V)).toNat.lor (u64 (wr IntKind.u64 (1 * pow2 k))).toNat) = wLo V2) (h2 : wHi V = wHi V2) :
    To Try.prog 71 (c1 (c1 (c2 rvBd))) (rvSA A n d r V (k : Int)) .normal (rvSA A n d (2 * r + b - d) V2 ((k : Int) - 1)) := by
  revert h1 h2
  have b0 : 0 ≤ b := by rw [← hb]; exact Int.emod_nonneg _ (by decide)
  have b1 : b ≤ 1 := by have := Int.emod_lt_of_pos (wLo A / pow2 k) (show (0 : Int) < 2 by decide); rw [hb] at this; exact Int.le_of_lt_add_one this
  have hJ : wr IntKind.u64 (w64 (Int.ofNat ((u64 (k : Int)).toNat.land (u64 63).toNat))) = (k : Int) := by rw [idx63 _ (by omega) (by omega)]; omega
  have hP : pow2 (min ((k : Int)).toNat IntKind.u64.bits) = pow2 k := by rw [pshift (by omega) (by omega)]; congr 1
  have hp := pow2_pos k
  have hI : wr IntKind.i64 ((k : Int) - 1) = (k : Int) - 1 := w64s (by omega) (by omega)
  have hL : Int.ofNat ((u64 (wLo A / pow2 k)).toNat.land (u64 1).toNat) = b := by
    have g1 : 0 ≤ wLo A / pow2 k := Int.ediv_nonneg hW0 (Int.le_of_lt hp)
    have g2 : wLo A / pow2 k ≤ wLo A := Int.ediv_le_self _ hW0
    rw [land1 _ g1 (Int.lt_of_le_of_lt g2 hW1), hb]
  have hO := lorBit (r := r) (b := b) r0 r1 b0 b1
  have hU : wr IntKind.u64 (2 * r + b - d) = 2 * r + b - d := u64_in (by omega) (by omega)
  intro h1 h2
  refine To.run (z := Zl) soundR3 (slots := [1, 2, 4, 5, 6, 7]) (blks := [0, 1, 2]) (vs := [.v (.one (.int .u64 d)), .v (.one (.ptr 0 0)), .v (.one (.ptr 1 0)), .v (.one (.ptr 2 0)), .v (.one (.int .u64 (2 * r + b - d))), .v (.one (.int .i64 ((k : Int) - 1)))]) (bs := [wideB A n, zeroB, wideB V2 n]) (nbB := 3) (fun dead => rvLt dead (wHi A) (wLo A) n d r (wHi V) (wLo V) (k : Int)) rfl ?_ ?_ ?_ (canB_ok (by rfl)) (Nat.le_refl _)
  · exact vs6 (by rw [hJ, hP, hL, hO, hU]) hI
  · rw [hJ, hP, h1, h2]; rfl
  · clear h1 h2
    rw [hJ, hP, hL, hO]
    simp only [all_tt, all_ff, decide_eq_true_eq, decide_eq_false_iff_not]
    repeat' apply And.intro
    all_goals first | exact ae_nil | omega
theorem rvsHf (A d : Int) (n : Bool) (r b V : Int) (j : Nat) (hk : j < 64) (hW0 : 0 ≤ wHi A) (hW1 : wHi A < 18446744073709551616) (hb : wHi A / pow2 j % 2 = b) (r0 : 0 ≤ r) (r1 : r < 9223372036854775808) (d0 : 0 < d) (d1 : d ≤ 9223372036854775808) (hc : 2 * r + b < d) :
    To Try.prog 71 (c1 (c1 (c2 rvBd))) (rvSA A n d r V ((j + 64 : Nat) : Int)) .normal (rvSA A n d (2 * r + b) V (((j + 64 : Nat) : Int) - 1)) := by
  have b0 : 0 ≤ b := by rw [← hb]; exact Int.emod_nonneg _ (by decide)
  have b1 : b ≤ 1 := by have := Int.emod_lt_of_pos (wHi A / pow2 j) (show (0 : Int) < 2 by decide); rw [hb] at this; exact Int.le_of_lt_add_one this
  have hJ : wr IntKind.u64 (w64 (Int.ofNat ((u64 ((j + 64 : Nat) : Int)).toNat.land (u64 63).toNat))) = (j : Int) := by rw [idx63 _ (by omega) (by omega)]; omega
  have hP : pow2 (min ((j : Int)).toNat IntKind.u64.bits) = pow2 j := by rw [pshift (by omega) (by omega)]; congr 1
  have hp := pow2_pos j
  have hI : wr IntKind.i64 (((j + 64 : Nat) : Int) - 1) = ((j + 64 : Nat) : Int) - 1 := w64s (by omega) (by omega)
  have hL : Int.ofNat ((u64 (wHi A / pow2 j)).toNat.land (u64 1).toNat) = b := by
    have g1 : 0 ≤ wHi A / pow2 j := Int.ediv_nonneg hW0 (Int.le_of_lt hp)
    have g2 : wHi A / pow2 j ≤ wHi A := Int.ediv_le_self _ hW0
    rw [land1 _ g1 (Int.lt_of_le_of_lt g2 hW1), hb]
  have hO := lorBit (r := r) (b := b) r0 r1 b0 b1
  refine To.run (z := Zl) soundR3 (slots := [1, 2, 4, 5, 6, 7]) (blks := [0, 1, 2]) (vs := [.v (.one (.int .u64 d)), .v (.one (.ptr 0 0)), .v (.one (.ptr 1 0)), .v (.one (.ptr 2 0)), .v (.one (.int .u64 (2 * r + b))), .v (.one (.int .i64 (((j + 64 : Nat) : Int) - 1)))]) (bs := [wideB A n, zeroB, wideB V n]) (nbB := 3) (fun dead => rvHf dead (wHi A) (wLo A) n d r (wHi V) (wLo V) ((j + 64 : Nat) : Int)) rfl ?_ ?_ ?_ (canB_ok (by rfl)) (Nat.le_refl _)
  · exact vs6 (by rw [hJ, hP, hL, hO]) hI
  · rfl
  · rw [hJ, hP, hL, hO]
    simp only [all_tt, all_ff, decide_eq_true_eq, decide_eq_false_iff_not]
    repeat' apply And.intro
    all_goals first | exact ae_nil | omega
theorem rvsHt (A d : Int) (n : Bool) (r b V V2 : Int) (j : Nat) (hk : j < 64) (hW0 : 0 ≤ wHi A) (hW1 : wHi A < 18446744073709551616) (hb : wHi A / pow2 j % 2 = b) (r0 : 0 ≤ r) (r1 : r < 9223372036854775808) (d0 : 0 < d) (d1 : d ≤ 9223372036854775808) (hc : ¬ 2 * r + b < d) (h1 : Int.ofNat ((u64 (wHi V)).toNat.lor (u64 (wr IntKind.u64 (1 * pow2 j))).toNat) = wHi V2) (h2 : wLo V = wLo V2) :
    To Try.prog 71 (c1 (c1 (c2 rvBd))) (rvSA A n d r V ((j + 64 : Nat) : Int)) .normal (rvSA A n d (2 * r + b - d) V2 (((j + 64 : Nat) : Int) - 1)) := by
  revert h1 h2
  have b0 : 0 ≤ b := by rw [← hb]; exact Int.emod_nonneg _ (by decide)
  have b1 : b ≤ 1 := by have := Int.emod_lt_of_pos (wHi A / pow2 j) (show (0 : Int) < 2 by decide); rw [hb] at this; exact Int.le_of_lt_add_one this
  have hJ : wr IntKind.u64 (w64 (Int.ofNat ((u64 ((j + 64 : Nat) : Int)).toNat.land (u64 63).toNat))) = (j : Int) := by rw [idx63 _ (by omega) (by omega)]; omega
  have hP : pow2 (min ((j : Int)).toNat IntKind.u64.bits) = pow2 j := by rw [pshift (by omega) (by omega)]; congr 1
  have hp := pow2_pos j
  have hI : wr IntKind.i64 (((j + 64 : Nat) : Int) - 1) = ((j + 64 : Nat) : Int) - 1 := w64s (by omega) (by omega)
  have hL : Int.ofNat ((u64 (wHi A / pow2 j)).toNat.land (u64 1).toNat) = b := by
    have g1 : 0 ≤ wHi A / pow2 j := Int.ediv_nonneg hW0 (Int.le_of_lt hp)
    have g2 : wHi A / pow2 j ≤ wHi A := Int.ediv_le_self _ hW0
    rw [land1 _ g1 (Int.lt_of_le_of_lt g2 hW1), hb]
  have hO := lorBit (r := r) (b := b) r0 r1 b0 b1
  have hU : wr IntKind.u64 (2 * r + b - d) = 2 * r + b - d := u64_in (by omega) (by omega)
  intro h1 h2
  refine To.run (z := Zl) soundR3 (slots := [1, 2, 4, 5, 6, 7]) (blks := [0, 1, 2]) (vs := [.v (.one (.int .u64 d)), .v (.one (.ptr 0 0)), .v (.one (.ptr 1 0)), .v (.one (.ptr 2 0)), .v (.one (.int .u64 (2 * r + b - d))), .v (.one (.int .i64 (((j + 64 : Nat) : Int) - 1)))]) (bs := [wideB A n, zeroB, wideB V2 n]) (nbB := 3) (fun dead => rvHt dead (wHi A) (wLo A) n d r (wHi V) (wLo V) ((j + 64 : Nat) : Int)) rfl ?_ ?_ ?_ (canB_ok (by rfl)) (Nat.le_refl _)
  · exact vs6 (by rw [hJ, hP, hL, hO, hU]) hI
  · rw [hJ, hP, h1, h2]; rfl
  · clear h1 h2
    rw [hJ, hP, hL, hO]
    simp only [all_tt, all_ff, decide_eq_true_eq, decide_eq_false_iff_not]
    repeat' apply And.intro
    all_goals first | exact ae_nil | omega

theorem rv_eV (Q P : Int) : Q * (2 * P) + P = (2 * Q + 1) * P := by grind
theorem rv_eW (Q P : Int) : Q * (2 * P) = 2 * Q * P := by grind
theorem rvStep (A d : Int) (n : Bool) (hA0 : 0 ≤ A) (hA1 : A < 340282366920938463463374607431768211456) (hd0 : 0 < d) (hd1 : d ≤ 9223372036854775808) (k : Nat) (hk : k < 128) :
    To Try.prog 71 (c1 (c1 (c2 rvBd))) (rvSA A n d (A / pow2 (k + 1) % d) (A / pow2 (k + 1) / d * pow2 (k + 1)) (k : Int)) .normal (rvSA A n d (A / pow2 k % d) (A / pow2 k / d * pow2 k) ((k : Int) - 1)) := by
  obtain ⟨s1, s2, s3, s4, s5⟩ := rv_step A d k hd0
  have r0 := Int.emod_nonneg (A / pow2 (k + 1)) (Int.ne_of_gt hd0)
  have r1 : A / pow2 (k + 1) % d < 9223372036854775808 := Int.lt_of_lt_of_le (Int.emod_lt_of_pos (A / pow2 (k + 1)) hd0) hd1
  have a1n : 0 ≤ A / pow2 (k + 1) := Int.ediv_nonneg hA0 (Int.le_of_lt (pow2_pos _))
  have a0n : 0 ≤ A / pow2 k := Int.ediv_nonneg hA0 (Int.le_of_lt (pow2_pos _))
  have Qn : 0 ≤ A / pow2 (k + 1) / d := Int.ediv_nonneg a1n (Int.le_of_lt hd0)
  have hle : A / pow2 k / d * pow2 k ≤ A := by
    have h1 : A / pow2 k / d ≤ A / pow2 k := Int.ediv_le_self _ a0n
    have h2 : A / pow2 k / d * pow2 k ≤ A / pow2 k * pow2 k := Int.mul_le_mul_of_nonneg_right h1 (Int.le_of_lt (pow2_pos _))
    exact Int.le_trans h2 (Int.ediv_mul_le A (Int.ne_of_gt (pow2_pos k)))
  obtain ⟨x0, x1⟩ := wHi_in A hA0 hA1
  obtain ⟨y0, y1⟩ := wLo_in A
  have es := pow2_succ k
  by_cases hc : 2 * (A / pow2 (k + 1) % d) + A / pow2 k % 2 < d
  · obtain ⟨q1, q2⟩ := s4 hc
    have eV : A / pow2 (k + 1) / d * pow2 (k + 1) = A / pow2 k / d * pow2 k := by rw [q1, es]; exact rv_eW _ _
    rw [q2, ← eV]
    rcases Nat.lt_or_ge k 64 with hlo | hhi
    · exact rvsLf A d n _ _ _ k hlo y0 y1 (bit_lo A k hlo) r0 r1 hd0 hd1 hc
    · obtain ⟨j, rfl⟩ : ∃ j : Nat, k = j + 64 := ⟨k - 64, (Nat.sub_add_cancel hhi).symm⟩
      exact rvsHf A d n _ _ _ j (Nat.lt_of_add_lt_add_right (n := 64) hk) x0 x1 (bit_hi A j) r0 r1 hd0 hd1 hc
  · obtain ⟨q1, q2⟩ := s5 hc
    have eV : A / pow2 (k + 1) / d * pow2 (k + 1) + pow2 k = A / pow2 k / d * pow2 k := by
      rw [q1, es]; exact rv_eV _ _
    rw [q2, ← eV]
    rcases Nat.lt_or_ge k 64 with hlo | hhi
    · obtain ⟨o1, o2⟩ := orb_lo (A / pow2 (k + 1) / d) k hlo Qn
      exact rvsLt A d n _ _ _ _ k hlo y0 y1 (bit_lo A k hlo) r0 r1 hd0 hd1 hc o1 o2
    · obtain ⟨j, rfl⟩ : ∃ j : Nat, k = j + 64 := ⟨k - 64, (Nat.sub_add_cancel hhi).symm⟩
      obtain ⟨o1, o2⟩ := orb_hi (A / pow2 (j + 64 + 1) / d) j Qn (by rw [eV]; exact Int.lt_of_le_of_lt hle hA1)
      exact rvsHt A d n _ _ _ _ j (Nat.lt_of_add_lt_add_right (n := 64) hk) x0 x1 (bit_hi A j) r0 r1 hd0 hd1 hc o1 o2

theorem rvEnd (A d : Int) (n : Bool) (r V : Int) : To Try.prog 71 (c1 (c1 (c2 rvBd))) (rvSA A n d r V (-1)) (.exit 0) (rvSB A n d r V) :=
  To.exec (z := Zl) soundR3 (slots := [1, 2, 4, 5, 6]) (blks := [0, 1, 2]) (vs := [_, _, _, _, _]) (bs := [_, _, _]) (nbB := 3) (fun dead => rvE dead (wHi A) (wLo A) n d r (wHi V) (wLo V) (-1)) (by simp) (canB_ok (by rfl)) (Nat.le_refl _)

theorem rvRd (A d : Int) (n : Bool) (hA0 : 0 ≤ A) (hA1 : A < 340282366920938463463374607431768211456) (hd0 : 0 < d) (hd1 : d ≤ 9223372036854775808) : ∀ (k : Nat), k ≤ 128 →
    Rd Try.prog 71 (c1 (c1 (c2 rvBd))) (k + 1) (rvSA A n d (A / pow2 k % d) (A / pow2 k / d * pow2 k) ((k : Int) - 1)) (.exit 0) (rvSB A n d (A % d) (A / d))
  | 0, _ => by
    have e : pow2 0 = 1 := rfl
    rw [e, Int.ediv_one, Int.mul_one]
    exact Rd.last (by simp) (rvEnd A d n _ _)
  | k + 1, hk => by
    have hs := rvStep A d n hA0 hA1 hd0 hd1 k (by omega)
    have e : (((k + 1 : Nat) : Int) - 1) = (k : Int) := by omega
    rw [e]
    exact Rd.next hs (rvRd A d n hA0 hA1 hd0 hd1 k (by omega))

def rdivS : List LV → Option (LV × List (Bool × Bool))
  | [.v (.agg [.int .u64 x, .int .u64 y, .bool n]), .v (.one (.int .u64 d))] => some (.v (RB (quoR (wVal x y) d) n), [(isU x, true), (isU y, true), (decide (0 < d), true), (decide (d ≤ 9223372036854775808), true)])
  | _ => none
theorem sumRdiv : SumOK Try.prog 35 (pureSum rdivS) := by
  refine pureSum_ok fun args v cs hF hc w => ?_
  unfold rdivS at hF
  split at hF
  · rename_i x y n d
    refine callOK_of (own_of soundR3 Try.func35 (by kernel_rfl)) ?_
    cases hF
    simp only [all_tt, isU_iff, decide_eq_true_eq] at hc
    obtain ⟨⟨x0, x1⟩, ⟨y0, y1⟩, hd0, hd1, -⟩ := hc
    have hA0 : 0 ≤ wVal x y := by unfold wVal; omega
    have hA1 : wVal x y < 340282366920938463463374607431768211456 := by unfold wVal; omega
    have hhx : wHi (wVal x y) = x := hi_mk x y y0 y1
    have hhy : wLo (wVal x y) = y := lo_mk x y y0 y1
    have hrd := rvRd (wVal x y) d n hA0 hA1 hd0 hd1 128 (Nat.le_refl _)
    generalize hA : wVal x y = A at *
    have r0 := Int.emod_nonneg A (show d ≠ 0 by omega)
    have r1 := Int.emod_lt_of_pos A hd0
    have hz : A / pow2 128 = 0 := Int.ediv_eq_zero_of_lt hA0 hA1
    rw [hz, Int.zero_emod, Int.zero_ediv, Int.zero_mul] at hrd
    refine calls_pure (c := bodyF Try.prog 35) (e := .ret) (B := ⟨[(4, .v (.one (.ptr 1 0)))], [(1, wideB (quoR A d) n)], 3⟩) Try.func35 (by kernel_rfl) (Nat.le_of_ble_eq_true (by kernel_rfl)) (Nat.le_of_ble_eq_true (by kernel_rfl)) rfl ?_ (.inr rfl) (fun dead => by kernel_rfl) rfl w
    refine To.spineR (z := Zl) soundR3 (k := 3) (slots := [1, 2, 4, 5, 6]) (blks := [0, 1, 2]) (vs := [_, _, _, _, _]) (bs := [wideB A n, zeroB, wideB 0 n]) (nbB := 3) (by kernel_rfl) (fun dead => rvA dead x y n d) rfl rfl (by unfold wideB; rw [hhx, hhy]; rfl) ae_nil (canB_ok (by rfl)) (Nat.zero_le _) ?_
    refine To.seq (by kernel_rfl) (To.seq (by kernel_rfl) (To.exec (z := Zl) soundR3 (slots := [1, 2, 4, 5, 6, 7]) (blks := [0, 1, 2]) (vs := [_, _, _, _, _, _]) (bs := [wideB A n, zeroB, wideB 0 n]) (nbB := 3) (fun dead => rvB dead (wHi A) (wLo A) n d 0 (wHi 0) (wLo 0)) ae_nil (canB_ok (by rfl)) (Nat.le_refl _))
      (To.block (id := 0) (by kernel_rfl) (To.loop (by kernel_rfl) hrd) (.inl rfl))) ?_
    have hwr : wr IntKind.u64 (d - A % d) = d - A % d := u64_in (by omega) (by omega)
    have q0 : 0 ≤ A / d := Int.ediv_nonneg hA0 (by omega)
    have q1 : A / d ≤ A := Int.ediv_le_self _ hA0
    have hw1 := wHi_in (A / d) q0 (by omega)
    have hw2 := wLo_in (A / d)
    unfold quoR
    by_cases hr : A % d ≥ d - A % d
    · rw [if_pos hr]
      have hdd : d = 1 ∨ 1 < d := by omega
      have hq : A / d + 1 < 340282366920938463463374607431768211456 := by
        rcases hdd with rfl | hdd
        · exfalso; omega
        · have : A / d ≤ A / 2 := by
            have h2 := Int.ediv_mul_le A (show d ≠ 0 by omega)
            have h3 : A / d * 2 ≤ A / d * d := Int.mul_le_mul_of_nonneg_left (by omega) q0
            omega
          omega
      refine To.run (z := Zl) soundR3 (slots := [4]) (blks := [1]) (vs := [_]) (bs := [wideB (A / d + 1) n]) (nbB := 3) (fun dead => rvFt dead (wHi A) (wLo A) n d (A % d) (wHi (A / d)) (wLo (A / d))) rfl rfl ?_ ?_ (canB_ok (by rfl)) (Nat.le_refl _)
      · have e1 : wVal 0 1 = 1 := rfl
        have eM : addM (A / d) n 1 n = A / d + 1 := by unfold addM; rw [if_pos rfl]
        have eN : addN (A / d) n 1 n = n := by unfold addN; rw [if_pos rfl]
        rw [wVal_mk, e1, eM, eN]; rfl
      · have e1 : wVal 0 1 = 1 := rfl
        rw [wVal_mk, e1, hwr]
        simp only [all_tt, isU_iff, decide_eq_true_eq]
        exact ⟨hw1, hw2, by omega, by omega, by omega, hr, ae_nil⟩
    · rw [if_neg hr]
      refine To.run (z := Zl) soundR3 (slots := [4]) (blks := [1]) (vs := [_]) (bs := [wideB (A / d) n]) (nbB := 3) (fun dead => rvFf dead (wHi A) (wLo A) n d (A % d) (wHi (A / d)) (wLo (A / d))) rfl rfl rfl ?_ (canB_ok (by rfl)) (Nat.le_refl _)
      rw [hwr]
      simp only [all_ff, decide_eq_false_iff_not]
      exact ⟨hr, ae_nil⟩
  · cases hF
end Go.Proofs.Ytdkmiliehlhmbaa

/- The second reference's root, bit by bit: its walk, and what it comes to. -/
namespace Go.Proofs.Ytdkmiliehlhmbaa
open Go.Lr
set_option linter.unusedVariables false
set_option linter.unusedSimpArgs false

theorem rrA (dead : Nat → Value) (x y : Int) (n : Bool) : projS [1,2,3] [0,1] (execL Try.prog R3S Zl 400 (spineL 2 (bodyF Try.prog 83)) (Kst.st ⟨argsL 0 [.v (.agg [.int .u64 x, .int .u64 y, .bool n])], [], 0⟩ 64 dead [])) = some (Ex.normal, [LV.v (V1.one (At.ptr 0 0)), LV.v (V1.one (At.ptr 1 0)), LV.v (V1.one (At.int IntKind.u64 0))], [some { ty := 78, fr := (0, 0), es := 0, cells := [At.int IntKind.u64 x, At.int IntKind.u64 y, At.bool n] }, some { ty := 78, fr := (0, 0), es := 0, cells := [At.int IntKind.u64 0, At.int IntKind.u64 0, At.bool false] }], []) := by kernel_rfl
theorem rrB (dead : Nat → Value) (x y : Int) (n : Bool) (r : Int) : projS [1,2,3,4] [0,1] (exec Try.prog R3S Zl 400 (.code (c1 (c1 (c2 (c2 (bodyF Try.prog 83)))))) (Kst.st ⟨[(1, .v (.one (.ptr 0 0))), (2, .v (.one (.ptr 1 0))), (3, .v (.one (.int .u64 r)))], [(0, ⟨78, (0,0), 0, [.int .u64 x, .int .u64 y, .bool n]⟩), (1, ⟨78, (0,0), 0, [.int .u64 0, .int .u64 0, .bool false]⟩)], 2⟩ 64 dead [])) = some (Ex.normal, [LV.v (V1.one (At.ptr 0 0)), LV.v (V1.one (At.ptr 1 0)), LV.v (V1.one (At.int IntKind.u64 r)), LV.v (V1.one (At.int IntKind.i64 63))], [some { ty := 78, fr := (0, 0), es := 0, cells := [At.int IntKind.u64 x, At.int IntKind.u64 y, At.bool n] }, some { ty := 78, fr := (0, 0), es := 0, cells := [At.int IntKind.u64 0, At.int IntKind.u64 0, At.bool false] }], []) := by kernel_rfl
theorem rrS1 (dead : Nat → Value) (x y : Int) (n : Bool) (r i : Int) : projS [1,2,3,4] [0,1] (exec Try.prog R3S Zl 400 (.code (c1 (c1 (c2 (c1 (c2 (c2 (bodyF Try.prog 83)))))))) (Kst.st ⟨[(1, .v (.one (.ptr 0 0))), (2, .v (.one (.ptr 1 0))), (3, .v (.one (.int .u64 r))), (4, .v (.one (.int .i64 i)))], [(0, ⟨78, (0,0), 0, [.int .u64 x, .int .u64 y, .bool n]⟩), (1, ⟨78, (0,0), 0, [.int .u64 0, .int .u64 0, .bool false]⟩)], 2⟩ 64 dead [some true, some true])) = some (Ex.normal, [LV.v (V1.one (At.ptr 0 0)), LV.v (V1.one (At.ptr 1 0)), LV.v (V1.one (At.int IntKind.u64 (Int.ofNat ((u64 r).toNat.lor (u64 (wr IntKind.u64 (1 * pow2 (min (wr IntKind.u64 i).toNat IntKind.u64.bits)))).toNat)))), LV.v (V1.one (At.int IntKind.i64 (wr IntKind.i64 (i - 1))))], [some { ty := 78, fr := (0, 0), es := 0, cells := [At.int IntKind.u64 x, At.int IntKind.u64 y, At.bool n] }, some { ty := 78, fr := (0, 0), es := 0, cells := [At.int IntKind.u64 0, At.int IntKind.u64 0, At.bool false] }], [(!decide (wVal x y < wVal (wHi (Int.ofNat ((u64 r).toNat.lor (u64 (wr IntKind.u64 (1 * pow2 (min (wr IntKind.u64 i).toNat IntKind.u64.bits)))).toNat) * Int.ofNat ((u64 r).toNat.lor (u64 (wr IntKind.u64 (1 * pow2 (min (wr IntKind.u64 i).toNat IntKind.u64.bits)))).toNat))) (wLo (Int.ofNat ((u64 r).toNat.lor (u64 (wr IntKind.u64 (1 * pow2 (min (wr IntKind.u64 i).toNat IntKind.u64.bits)))).toNat) * Int.ofNat ((u64 r).toNat.lor (u64 (wr IntKind.u64 (1 * pow2 (min (wr IntKind.u64 i).toNat IntKind.u64.bits)))).toNat)))), true), (isU y, true), (isU (wLo (Int.ofNat ((u64 r).toNat.lor (u64 (wr IntKind.u64 (1 * pow2 (min (wr IntKind.u64 i).toNat IntKind.u64.bits)))).toNat) * Int.ofNat ((u64 r).toNat.lor (u64 (wr IntKind.u64 (1 * pow2 (min (wr IntKind.u64 i).toNat IntKind.u64.bits)))).toNat))), true), (isU (Int.ofNat ((u64 r).toNat.lor (u64 (wr IntKind.u64 (1 * pow2 (min (wr IntKind.u64 i).toNat IntKind.u64.bits)))).toNat)), true), (isU (Int.ofNat ((u64 r).toNat.lor (u64 (wr IntKind.u64 (1 * pow2 (min (wr IntKind.u64 i).toNat IntKind.u64.bits)))).toNat)), true), (decide (wr IntKind.u64 i < 0), false), (decide (i ≥ 0), true)]) := by kernel_rfl
theorem rrS2 (dead : Nat → Value) (x y : Int) (n : Bool) (r i : Int) : projS [1,2,3,4] [0,1] (exec Try.prog R3S Zl 400 (.code (c1 (c1 (c2 (c1 (c2 (c2 (bodyF Try.prog 83)))))))) (Kst.st ⟨[(1, .v (.one (.ptr 0 0))), (2, .v (.one (.ptr 1 0))), (3, .v (.one (.int .u64 r))), (4, .v (.one (.int .i64 i)))], [(0, ⟨78, (0,0), 0, [.int .u64 x, .int .u64 y, .bool n]⟩), (1, ⟨78, (0,0), 0, [.int .u64 0, .int .u64 0, .bool false]⟩)], 2⟩ 64 dead [some true, some false])) = some (Ex.normal, [LV.v (V1.one (At.ptr 0 0)), LV.v (V1.one (At.ptr 1 0)), LV.v (V1.one (At.int IntKind.u64 r)), LV.v (V1.one (At.int IntKind.i64 (wr IntKind.i64 (i - 1))))], [some { ty := 78, fr := (0, 0), es := 0, cells := [At.int IntKind.u64 x, At.int IntKind.u64 y, At.bool n] }, some { ty := 78, fr := (0, 0), es := 0, cells := [At.int IntKind.u64 0, At.int IntKind.u64 0, At.bool false] }], [(!decide (wVal x y < wVal (wHi (Int.ofNat ((u64 r).toNat.lor (u64 (wr IntKind.u64 (1 * pow2 (min (wr IntKind.u64 i).toNat IntKind.u64.bits)))).toNat) * Int.ofNat ((u64 r).toNat.lor (u64 (wr IntKind.u64 (1 * pow2 (min (wr IntKind.u64 i).toNat IntKind.u64.bits)))).toNat))) (wLo (Int.ofNat ((u64 r).toNat.lor (u64 (wr IntKind.u64 (1 * pow2 (min (wr IntKind.u64 i).toNat IntKind.u64.bits)))).toNat) * Int.ofNat ((u64 r).toNat.lor (u64 (wr IntKind.u64 (1 * pow2 (min (wr IntKind.u64 i).toNat IntKind.u64.bits)))).toNat)))), false), (isU y, true), (isU (wLo (Int.ofNat ((u64 r).toNat.lor (u64 (wr IntKind.u64 (1 * pow2 (min (wr IntKind.u64 i).toNat IntKind.u64.bits)))).toNat) * Int.ofNat ((u64 r).toNat.lor (u64 (wr IntKind.u64 (1 * pow2 (min (wr IntKind.u64 i).toNat IntKind.u64.bits)))).toNat))), true), (isU (Int.ofNat ((u64 r).toNat.lor (u64 (wr IntKind.u64 (1 * pow2 (min (wr IntKind.u64 i).toNat IntKind.u64.bits)))).toNat)), true), (isU (Int.ofNat ((u64 r).toNat.lor (u64 (wr IntKind.u64 (1 * pow2 (min (wr IntKind.u64 i).toNat IntKind.u64.bits)))).toNat)), true), (decide (wr IntKind.u64 i < 0), false), (decide (i ≥ 0), true)]) := by kernel_rfl
theorem rrE (dead : Nat → Value) (x y : Int) (n : Bool) (r i : Int) : projS [1,2,3] [0,1] (exec Try.prog R3S Zl 400 (.code (c1 (c1 (c2 (c1 (c2 (c2 (bodyF Try.prog 83)))))))) (Kst.st ⟨[(1, .v (.one (.ptr 0 0))), (2, .v (.one (.ptr 1 0))), (3, .v (.one (.int .u64 r))), (4, .v (.one (.int .i64 i)))], [(0, ⟨78, (0,0), 0, [.int .u64 x, .int .u64 y, .bool n]⟩), (1, ⟨78, (0,0), 0, [.int .u64 0, .int .u64 0, .bool false]⟩)], 2⟩ 64 dead [some false])) = some (Ex.exit 0, [LV.v (V1.one (At.ptr 0 0)), LV.v (V1.one (At.ptr 1 0)), LV.v (V1.one (At.int IntKind.u64 r))], [some { ty := 78, fr := (0, 0), es := 0, cells := [At.int IntKind.u64 x, At.int IntKind.u64 y, At.bool n] }, some { ty := 78, fr := (0, 0), es := 0, cells := [At.int IntKind.u64 0, At.int IntKind.u64 0, At.bool false] }], [(decide (i ≥ 0), false)]) := by kernel_rfl
theorem rrT0 (dead : Nat → Value) (x y : Int) (n : Bool) (r : Int) : projS [2] [1] (exec Try.prog R3S Zl 400 (.code (c2 (c2 (c2 (bodyF Try.prog 83))))) (Kst.st ⟨[(1, .v (.one (.ptr 0 0))), (2, .v (.one (.ptr 1 0))), (3, .v (.one (.int .u64 r)))], [(0, ⟨78, (0,0), 0, [.int .u64 x, .int .u64 y, .bool n]⟩), (1, ⟨78, (0,0), 0, [.int .u64 0, .int .u64 0, .bool false]⟩)], 2⟩ 64 dead [some false, some false, some false, some false, some false, some true, some false])) = some (Ex.ret, [LV.v (V1.one (At.ptr 1 0))], [some { ty := 78, fr := (0, 0), es := 0, cells := [At.int IntKind.u64 0, At.int IntKind.u64 (wr IntKind.u64 (r + 1)), At.bool false] }], [(wr IntKind.u64 (r + 1) == 0, false), (decide (wLo (addM (wVal x y) n (wVal (wHi (r * r)) (wLo (r * r))) true) > r), true), (decide (wHi (addM (wVal x y) n (wVal (wHi (r * r)) (wLo (r * r))) true) > 0), false), (decide (wHi (addM (wVal x y) n (wVal (wHi (r * r)) (wLo (r * r))) true) > 0), false), (decide (wHi (addM (wVal x y) n (wVal (wHi (r * r)) (wLo (r * r))) true) > 0), false), (decide (wHi (addM (wVal x y) n (wVal (wHi (r * r)) (wLo (r * r))) true) > 0), false), (decide (wHi (addM (wVal x y) n (wVal (wHi (r * r)) (wLo (r * r))) true) > 0), false), (isU x, true), (isU y, true), (isU (wHi (r * r)), true), (isU (wLo (r * r)), true), (decide (wVal x y + wVal (wHi (r * r)) (wLo (r * r)) < 340282366920938463463374607431768211456), true), (isU r, true), (isU r, true)]) := by kernel_rfl
theorem rrT1 (dead : Nat → Value) (x y : Int) (n : Bool) (r : Int) : projS [2] [1] (exec Try.prog R3S Zl 400 (.code (c2 (c2 (c2 (bodyF Try.prog 83))))) (Kst.st ⟨[(1, .v (.one (.ptr 0 0))), (2, .v (.one (.ptr 1 0))), (3, .v (.one (.int .u64 r)))], [(0, ⟨78, (0,0), 0, [.int .u64 x, .int .u64 y, .bool n]⟩), (1, ⟨78, (0,0), 0, [.int .u64 0, .int .u64 0, .bool false]⟩)], 2⟩ 64 dead [some false, some false, some false, some false, some false, some false])) = some (Ex.ret, [LV.v (V1.one (At.ptr 1 0))], [some { ty := 78, fr := (0, 0), es := 0, cells := [At.int IntKind.u64 0, At.int IntKind.u64 r, At.bool false] }], [(decide (wLo (addM (wVal x y) n (wVal (wHi (r * r)) (wLo (r * r))) true) > r), false), (decide (wHi (addM (wVal x y) n (wVal (wHi (r * r)) (wLo (r * r))) true) > 0), false), (decide (wHi (addM (wVal x y) n (wVal (wHi (r * r)) (wLo (r * r))) true) > 0), false), (decide (wHi (addM (wVal x y) n (wVal (wHi (r * r)) (wLo (r * r))) true) > 0), false), (decide (wHi (addM (wVal x y) n (wVal (wHi (r * r)) (wLo (r * r))) true) > 0), false), (decide (wHi (addM (wVal x y) n (wVal (wHi (r * r)) (wLo (r * r))) true) > 0), false), (isU x, true), (isU y, true), (isU (wHi (r * r)), true), (isU (wLo (r * r)), true), (decide (wVal x y + wVal (wHi (r * r)) (wLo (r * r)) < 340282366920938463463374607431768211456), true), (isU r, true), (isU r, true)]) := by kernel_rfl

noncomputable def rrBd : Code := c1 (c2 (c2 (bodyF Try.prog 83)))
def rrSA (A : Int) (n : Bool) (r i : Int) : Kst := ⟨[(1, .v (.one (.ptr 0 0))), (2, .v (.one (.ptr 1 0))), (3, .v (.one (.int .u64 r))), (4, .v (.one (.int .i64 i)))], [(0, wideB A n), (1, zeroB)], 2⟩
def rrSB (A : Int) (n : Bool) (r : Int) : Kst := ⟨[(1, .v (.one (.ptr 0 0))), (2, .v (.one (.ptr 1 0))), (3, .v (.one (.int .u64 r)))], [(0, wideB A n), (1, zeroB)], 2⟩
theorem vs4 {a c : LV} {x x' y y' : Int} (h1 : x = x') (h2 : y = y') : [a, c, LV.v (V1.one (At.int .u64 x)), LV.v (V1.one (At.int .i64 y))] = [a, c, LV.v (V1.one (At.int .u64 x')), LV.v (V1.one (At.int .i64 y'))] := by subst h1; subst h2; rfl

/-- The root so far: a multiple of a power, not too great, the next one is. -/
def RInv (A : Int) (k : Nat) (r : Int) : Prop := ∃ q, 0 ≤ q ∧ r = q * pow2 k ∧ r * r ≤ A ∧ A < (r + pow2 k) * (r + pow2 k)
theorem RInv.lt {A : Int} {k : Nat} {r : Int} (h : RInv A k r) (hA : A ≤ 85070591730234615865843651857942052864) : 0 ≤ r ∧ r ≤ 9223372036854775808 := by
  obtain ⟨q, h0, rfl, h2, -⟩ := h
  have hp := pow2_pos k
  have hn : 0 ≤ q * pow2 k := Int.mul_nonneg h0 (Int.le_of_lt hp)
  refine ⟨hn, ?_⟩
  rcases Int.lt_or_le 9223372036854775808 (q * pow2 k) with h | h
  · exfalso
    have : 9223372036854775809 * 9223372036854775809 ≤ q * pow2 k * (q * pow2 k) := Int.mul_le_mul (by omega) (by omega) (by omega) hn
    omega
  · exact h
theorem sq_add (r P : Int) : (r + P) * (r + P) = r * r + 2 * (r * P) + P * P := by grind
theorem RInv.yes {A : Int} {k : Nat} {r : Int} (h : RInv A (k + 1) r) (hx : (r + pow2 k) * (r + pow2 k) ≤ A) : RInv A k (r + pow2 k) := by
  obtain ⟨q, h0, rfl, h2, h3⟩ := h
  rw [pow2_succ] at hx h2 h3 ⊢
  refine ⟨2 * q + 1, by omega, by grind, hx, ?_⟩
  have e : q * (2 * pow2 k) + pow2 k + pow2 k = q * (2 * pow2 k) + 2 * pow2 k := by omega
  rw [e]; exact h3
theorem RInv.no {A : Int} {k : Nat} {r : Int} (h : RInv A (k + 1) r) (hx : ¬ (r + pow2 k) * (r + pow2 k) ≤ A) : RInv A k r := by
  obtain ⟨q, h0, rfl, h2, h3⟩ := h
  rw [pow2_succ] at hx h2 h3 ⊢
  exact ⟨2 * q, by omega, by grind, h2, Int.lt_of_not_ge hx⟩
theorem RInv.start {A : Int} (h0 : 0 ≤ A) (h1 : A < 340282366920938463463374607431768211456) : RInv A 64 0 := by
  refine ⟨0, Int.le_refl 0, (Int.zero_mul _).symm, h0, ?_⟩
  have hp : (0 + pow2 64) * (0 + pow2 64) = 340282366920938463463374607431768211456 := by decide
  rw [hp]; exact h1
theorem RInv.bit {A : Int} {k : Nat} {r : Int} (h : RInv A (k + 1) r) (hA : A ≤ 85070591730234615865843651857942052864) (hk : k < 64) :
    Int.ofNat ((u64 r).toNat.lor (u64 (wr IntKind.u64 (1 * pow2 k))).toNat) = r + pow2 k ∧ 0 ≤ r + pow2 k ∧ r + pow2 k < 18446744073709551616 := by
  obtain ⟨b0, b1⟩ := h.lt hA
  obtain ⟨q, h0, rfl, h2, h3⟩ := h
  have hp := pow2_pos k
  have hp2 : pow2 k ≤ 9223372036854775808 := pow2_le (n := 63) _ (by omega) (by decide)
  have hs : q * pow2 (k + 1) + pow2 k < 18446744073709551616 := by
    rcases Nat.lt_or_ge k 63 with h | h
    · have : pow2 k ≤ 4611686018427387904 := pow2_le (n := 62) _ (by omega) (by decide)
      omega
    · have hk63 : k = 63 := by omega
      subst hk63
      have e : pow2 (63 + 1) = 18446744073709551616 := by decide
      rw [e] at b1 ⊢
      have : q = 0 := by omega
      subst this; omega
  have e := (ior_add q (pow2 k) (k + 1) h0 (Int.le_of_lt hp) (by rw [pow2_succ]; omega) hs).1
  rw [wr_u, Int.one_mul, u64_in (x := pow2 k) (by omega) (by omega), e]
  exact ⟨rfl, by omega, hs⟩

theorem rrIdx (k : Nat) (hk : k < 64) : pow2 (min (wr IntKind.u64 (k : Int)).toNat IntKind.u64.bits) = pow2 k ∧ decide (wr IntKind.u64 (k : Int) < 0) = false ∧ wr IntKind.i64 ((k : Int) - 1) = (k : Int) - 1 := by
  have e : wr IntKind.u64 (k : Int) = (k : Int) := u64_in (by omega) (by omega)
  rw [e]
  refine ⟨?_, by simp, w64s (by omega) (by omega)⟩
  rw [pshift (by omega) (by omega)]; congr 1

theorem sq_lt {x : Int} (h0 : 0 ≤ x) (h1 : x < 18446744073709551616) : 0 ≤ x * x ∧ x * x < 340282366920938463463374607431768211456 := by
  refine ⟨Int.mul_nonneg h0 h0, ?_⟩
  have : x * x ≤ 18446744073709551615 * 18446744073709551615 := Int.mul_le_mul (by omega) (by omega) h0 (by omega)
  omega
theorem rrStep (A : Int) (n : Bool) (hA0 : 0 ≤ A) (hA1 : A ≤ 85070591730234615865843651857942052864) (k : Nat) (hk : k < 64) (r : Int) (h : RInv A (k + 1) r) :
    To Try.prog 64 (c1 (c1 (c2 rrBd))) (rrSA A n r (k : Int)) .normal (rrSA A n (if (r + pow2 k) * (r + pow2 k) ≤ A then r + pow2 k else r) ((k : Int) - 1)) := by
  obtain ⟨b1, b2, b3⟩ := h.bit hA1 hk
  obtain ⟨i1, i2, i3⟩ := rrIdx k hk
  have hy := wLo_in A
  have hl := wLo_in ((r + pow2 k) * (r + pow2 k))
  have u1 : isU (wLo A) = true := isU_iff.2 hy
  have u2 : isU (wLo ((r + pow2 k) * (r + pow2 k))) = true := isU_iff.2 hl
  have u3 : isU (r + pow2 k) = true := isU_iff.2 ⟨b2, b3⟩
  have i4 : decide ((k : Int) ≥ 0) = true := decide_eq_true (Int.natCast_nonneg k)
  clear hy hl b2 b3
  by_cases hc : (r + pow2 k) * (r + pow2 k) ≤ A
  · rw [if_pos hc]
    refine To.run (z := Zl) soundR3 (slots := [1, 2, 3, 4]) (blks := [0, 1]) (vs := [.v (.one (.ptr 0 0)), .v (.one (.ptr 1 0)), .v (.one (.int .u64 (r + pow2 k))), .v (.one (.int .i64 ((k : Int) - 1)))]) (bs := [wideB A n, zeroB]) (nbB := 2) (fun dead => rrS1 dead (wHi A) (wLo A) n r (k : Int)) rfl ?_ rfl ?_ (canB_ok (by rfl)) (Nat.le_refl _)
    · exact vs4 (by rw [i1, b1]) i3
    · rw [i1, b1, i2, wVal_mk, wVal_mk, u1, u2, u3, i4, decide_eq_false (Int.not_lt.2 hc)]
      simp
  · rw [if_neg hc]
    refine To.run (z := Zl) soundR3 (slots := [1, 2, 3, 4]) (blks := [0, 1]) (vs := [.v (.one (.ptr 0 0)), .v (.one (.ptr 1 0)), .v (.one (.int .u64 r)), .v (.one (.int .i64 ((k : Int) - 1)))]) (bs := [wideB A n, zeroB]) (nbB := 2) (fun dead => rrS2 dead (wHi A) (wLo A) n r (k : Int)) rfl ?_ rfl ?_ (canB_ok (by rfl)) (Nat.le_refl _)
    · exact vs4 rfl i3
    · rw [i1, b1, i2, wVal_mk, wVal_mk, u1, u2, u3, i4, decide_eq_true (Int.not_le.1 hc)]
      simp
theorem rrEnd (A : Int) (n : Bool) (r : Int) : To Try.prog 64 (c1 (c1 (c2 rrBd))) (rrSA A n r (-1)) (.exit 0) (rrSB A n r) :=
  To.exec (z := Zl) soundR3 (slots := [1, 2, 3]) (blks := [0, 1]) (vs := [_, _, _]) (bs := [_, _]) (nbB := 2) (fun dead => rrE dead (wHi A) (wLo A) n r (-1)) (by simp) (canB_ok (by rfl)) (Nat.le_refl _)
/-- The root's floor. -/
def isq (A : Int) : Nat → Int → Int
  | 0, r => r
  | k + 1, r => isq A k (if (r + pow2 k) * (r + pow2 k) ≤ A then r + pow2 k else r)
theorem isq_inv {A : Int} : ∀ {k : Nat} {r : Int}, RInv A k r → RInv A 0 (isq A k r)
  | 0, r, h => h
  | k + 1, r, h => by
    simp only [isq]
    by_cases hc : (r + pow2 k) * (r + pow2 k) ≤ A
    · rw [if_pos hc]; exact isq_inv (h.yes hc)
    · rw [if_neg hc]; exact isq_inv (h.no hc)
theorem rrRd (A : Int) (n : Bool) (hA0 : 0 ≤ A) (hA1 : A ≤ 85070591730234615865843651857942052864) : ∀ (k : Nat), k ≤ 64 → ∀ r, RInv A k r →
    Rd Try.prog 64 (c1 (c1 (c2 rrBd))) (k + 1) (rrSA A n r ((k : Int) - 1)) (.exit 0) (rrSB A n (isq A k r))
  | 0, _, r, h => Rd.last (by simp) (rrEnd A n r)
  | k + 1, hk, r, h => by
    have hs := rrStep A n hA0 hA1 k (by omega) r h
    have e : (((k + 1 : Nat) : Int) - 1) = (k : Int) := by omega
    rw [e]
    refine Rd.next hs ?_
    simp only [isq]
    by_cases hc : (r + pow2 k) * (r + pow2 k) ≤ A
    · rw [if_pos hc]; exact rrRd A n hA0 hA1 k (by omega) _ (h.yes hc)
    · rw [if_neg hc]; exact rrRd A n hA0 hA1 k (by omega) _ (h.no hc)

theorem isq_spec {A : Int} (h0 : 0 ≤ A) (h1 : A < 340282366920938463463374607431768211456) : 0 ≤ isq A 64 0 ∧ isq A 64 0 * isq A 64 0 ≤ A ∧ A ≤ isq A 64 0 * isq A 64 0 + 2 * isq A 64 0 := by
  obtain ⟨q, a0, a1, a2, a3⟩ := isq_inv (RInv.start h0 h1)
  generalize isq A 64 0 = r at *
  have e : pow2 0 = 1 := rfl
  rw [e] at a1 a3
  rw [sq_add] at a3
  exact ⟨by omega, a2, by omega⟩
theorem root_isq {A : Int} (h0 : 0 ≤ A) (h1 : A < 340282366920938463463374607431768211456) : rootW A = if A - isq A 64 0 * isq A 64 0 > isq A 64 0 then isq A 64 0 + 1 else isq A 64 0 := by
  obtain ⟨s0, s1, s2⟩ := isq_spec h0 h1
  generalize isq A 64 0 = r at *
  by_cases h : A - r * r > r
  · rw [if_pos h]
    have e : (r + 1) * (r + 1) = r * r + 2 * r + 1 := by grind
    refine Int.le_antisymm (root_le h0 h1 (by omega) (by omega)) (root_ge h0 h1 (.inr (by omega)))
  · rw [if_neg h]
    refine Int.le_antisymm (root_le h0 h1 s0 (by omega)) (root_ge h0 h1 ?_)
    by_cases hr : r = 0
    · exact .inl (by omega)
    · right; omega

def rrootS : List LV → Option (LV × List (Bool × Bool))
  | [.v (.agg [.int .u64 x, .int .u64 y, .bool n])] => some (.v (RB (rootW (wVal x y)) false), [(isU x, true), (isU y, true), (n, false), (decide (wVal x y ≤ 85070591730234615865843651857942052864), true)])
  | _ => none
theorem rr_sub {A r : Int} (h : ¬ A < r * r) : addM A false (r * r) true = A - r * r := by
  unfold addM
  rw [if_neg (by simp), if_neg h]
theorem rr_parts {v : Int} (h0 : 0 ≤ v) (h1 : v ≤ 18446744073709551615) : wHi v = 0 ∧ wLo v = v := by
  constructor
  · unfold wHi; omega
  · unfold wLo; omega
theorem sumRroot : SumOK Try.prog 83 (pureSum rrootS) := by
  refine pureSum_ok fun args v cs hF hc w => ?_
  unfold rrootS at hF
  split at hF
  · rename_i x y n
    refine callOK_of (own_of soundR3 Try.func83 (by kernel_rfl)) ?_
    cases hF
    simp only [all_tt, all_ff, isU_iff, decide_eq_true_eq] at hc
    obtain ⟨⟨x0, x1⟩, ⟨y0, y1⟩, hn, hA1, -⟩ := hc
    subst hn
    have hA0 : 0 ≤ wVal x y := by unfold wVal; omega
    have hhx : wHi (wVal x y) = x := hi_mk x y y0 y1
    have hhy : wLo (wVal x y) = y := lo_mk x y y0 y1
    have hA2 : wVal x y < 340282366920938463463374607431768211456 := Int.lt_of_le_of_lt hA1 (by decide)
    have hrd := rrRd (wVal x y) false hA0 hA1 64 (Nat.le_refl _) 0 (RInv.start hA0 hA2)
    have hrt := root_isq hA0 hA2
    obtain ⟨s0, s1, s2⟩ := isq_spec hA0 hA2
    have s3 := ((isq_inv (RInv.start hA0 hA2)).lt hA1).2
    have u1 : isU (wHi (wVal x y)) = true := by rw [hhx]; exact isU_iff.2 ⟨x0, x1⟩
    have u2 : isU (wLo (wVal x y)) = true := by rw [hhy]; exact isU_iff.2 ⟨y0, y1⟩
    generalize hA : wVal x y = A at *
    rw [hrt]
    generalize isq A 64 0 = r at *
    refine calls_pure (c := bodyF Try.prog 83) (e := .ret) (B := ⟨[(2, .v (.one (.ptr 1 0)))], [(1, wideB (if A - r * r > r then r + 1 else r) false)], 2⟩) Try.func83 (by kernel_rfl) (Nat.le_of_ble_eq_true (by kernel_rfl)) (Nat.le_of_ble_eq_true (by kernel_rfl)) rfl ?_ (.inr rfl) (fun dead => by kernel_rfl) rfl w
    refine To.spineR (z := Zl) soundR3 (k := 2) (slots := [1, 2, 3]) (blks := [0, 1]) (vs := [_, _, _]) (bs := [wideB A false, zeroB]) (nbB := 2) (by kernel_rfl) (fun dead => rrA dead x y false) rfl rfl (by unfold wideB; rw [hhx, hhy]; rfl) ae_nil (canB_ok (by rfl)) (Nat.zero_le _) ?_
    refine To.seq (by kernel_rfl) (To.seq (by kernel_rfl) (To.exec (z := Zl) soundR3 (slots := [1, 2, 3, 4]) (blks := [0, 1]) (vs := [_, _, _, _]) (bs := [wideB A false, zeroB]) (nbB := 2) (fun dead => rrB dead (wHi A) (wLo A) false 0) ae_nil (canB_ok (by rfl)) (Nat.le_refl _))
      (To.block (id := 0) (by kernel_rfl) (To.loop (by kernel_rfl) hrd) (.inl rfl))) ?_
    have hrr := sq_lt s0 (show r < 18446744073709551616 by omega)
    have u3 : isU (wHi (r * r)) = true := isU_iff.2 (wHi_in _ hrr.1 hrr.2)
    have u4 : isU (wLo (r * r)) = true := isU_iff.2 (wLo_in _)
    have u5 : isU r = true := isU_iff.2 ⟨s0, by omega⟩
    have hM := rr_sub (A := A) (r := r) (by omega)
    have hd : A - r * r ≤ 18446744073709551615 := by
      rcases Int.lt_or_le r 9223372036854775808 with h | h
      · omega
      · have : r = 9223372036854775808 := by omega
        subst this; omega
    obtain ⟨p1, p2⟩ := rr_parts (v := A - r * r) (by omega) hd
    have hs : A + r * r < 340282366920938463463374607431768211456 := by omega
    by_cases hr : A - r * r > r
    · rw [if_pos hr]
      have hw : wr IntKind.u64 (r + 1) = r + 1 := u64_in (by omega) (by omega)
      obtain ⟨q1, q2⟩ := rr_parts (v := r + 1) (by omega) (by omega)
      refine To.run (z := Zl) soundR3 (slots := [2]) (blks := [1]) (vs := [_]) (bs := [wideB (r + 1) false]) (nbB := 2) (fun dead => rrT0 dead (wHi A) (wLo A) false r) rfl rfl ?_ ?_ (canB_ok (by rfl)) (Nat.le_refl _)
      · unfold wideB; rw [q1, q2, hw]; rfl
      · rw [wVal_mk, wVal_mk, hM, p1, p2, u1, u2, u3, u4, u5, hw, decide_eq_true hr, decide_eq_true hs]
        have : (r + 1 == 0) = false := by simp; omega
        rw [this]
        simp
    · rw [if_neg hr]
      obtain ⟨q1, q2⟩ := rr_parts (v := r) s0 (by omega)
      refine To.run (z := Zl) soundR3 (slots := [2]) (blks := [1]) (vs := [_]) (bs := [wideB r false]) (nbB := 2) (fun dead => rrT1 dead (wHi A) (wLo A) false r) rfl rfl ?_ ?_ (canB_ok (by rfl)) (Nat.le_refl _)
      · unfold wideB; rw [q1, q2]; rfl
      · rw [wVal_mk, wVal_mk, hM, p1, p2, u1, u2, u3, u4, u5, decide_eq_false hr, decide_eq_true hs]
        simp
  · cases hF
end Go.Proofs.Ytdkmiliehlhmbaa

/- The second reference's product by 30: its run (printed), and what it comes to. -/
namespace Go.Proofs.Ytdkmiliehlhmbaa
open Go.Lr
set_option linter.unusedVariables false
set_option linter.unusedSimpArgs false

theorem rmul30R1 (a b : Int) (hb : Bool) (ty : TypeId) : (runF Try.prog R3S Zl 2000 64 [A0, .v (.one (.int .i64 a)), .v (.one (.int .i64 b)), .v (.one (.int .i64 30))] [(0, flag ty hb)] 1 []).map acc3 = some (LV.v (V1.one (At.int IntKind.i64 (satV (sgn (!decide (satV a < 0) == decide (satV b < 0)) (wVal (wHi ((wVal (wHi (absV (satV a) * absV (satV b))) (wLo (absV (satV a) * absV (satV b))) + 536870912) / 1073741824)) (wLo ((wVal (wHi (absV (satV a) * absV (satV b))) (wLo (absV (satV a) * absV (satV b))) + 536870912) / 1073741824))))))), some { ty := ty, fr := (0, 0), es := 0, cells := [At.bool (hb || satH a || satH b || satH (sgn (!decide (satV a < 0) == decide (satV b < 0)) (wVal (wHi ((wVal (wHi (absV (satV a) * absV (satV b))) (wLo (absV (satV a) * absV (satV b))) + 536870912) / 1073741824)) (wLo ((wVal (wHi (absV (satV a) * absV (satV b))) (wLo (absV (satV a) * absV (satV b))) + 536870912) / 1073741824)))))] }, [(isU (wHi ((wVal (wHi (absV (satV a) * absV (satV b))) (wLo (absV (satV a) * absV (satV b))) + 536870912) / 1073741824)), true), (isU (wLo ((wVal (wHi (absV (satV a) * absV (satV b))) (wLo (absV (satV a) * absV (satV b))) + 536870912) / 1073741824)), true), (isU (wHi (absV (satV a) * absV (satV b))), true), (isU (wLo (absV (satV a) * absV (satV b))), true), (decide (wVal (wHi (absV (satV a) * absV (satV b))) (wLo (absV (satV a) * absV (satV b))) + 536870912 < 340282366920938463463374607431768211456), true), (isI (satV a), true), (isI (satV b), true)]) := by kernel_rfl
def rmul30T (a b : Int) (hb : Bool) : Option (LV × Bool × List (Bool × Bool)) := some (LV.v (V1.one (At.int IntKind.i64 (satV (sgn (!decide (satV a < 0) == decide (satV b < 0)) (wVal (wHi ((wVal (wHi (absV (satV a) * absV (satV b))) (wLo (absV (satV a) * absV (satV b))) + 536870912) / 1073741824)) (wLo ((wVal (wHi (absV (satV a) * absV (satV b))) (wLo (absV (satV a) * absV (satV b))) + 536870912) / 1073741824))))))), (hb || satH a || satH b || satH (sgn (!decide (satV a < 0) == decide (satV b < 0)) (wVal (wHi ((wVal (wHi (absV (satV a) * absV (satV b))) (wLo (absV (satV a) * absV (satV b))) + 536870912) / 1073741824)) (wLo ((wVal (wHi (absV (satV a) * absV (satV b))) (wLo (absV (satV a) * absV (satV b))) + 536870912) / 1073741824))))), [(isU (wHi ((wVal (wHi (absV (satV a) * absV (satV b))) (wLo (absV (satV a) * absV (satV b))) + 536870912) / 1073741824)), true), (isU (wLo ((wVal (wHi (absV (satV a) * absV (satV b))) (wLo (absV (satV a) * absV (satV b))) + 536870912) / 1073741824)), true), (isU (wHi (absV (satV a) * absV (satV b))), true), (isU (wLo (absV (satV a) * absV (satV b))), true), (decide (wVal (wHi (absV (satV a) * absV (satV b))) (wLo (absV (satV a) * absV (satV b))) + 536870912 < 340282366920938463463374607431768211456), true), (isI (satV a), true), (isI (satV b), true)])
def rmul30F : List LV → Bool → Option (LV × Bool × List (Bool × Bool))
  | [.v (.one (.int .i64 a)), .v (.one (.int .i64 b)), .v (.one (.int .i64 30))], hb => rmul30T a b hb
  | _, _ => none
theorem sumrmul30 (ty : TypeId) : SumOK Try.prog 64 (accSum ty rmul30F) := by
  refine accSum_run (z := Zl) soundR3 (own_of soundR3 Try.func64 (by kernel_rfl)) fun args hb v h' cs hF hc => ?_
  unfold rmul30F at hF
  split at hF
  · rename_i a b
    unfold rmul30T at hF
    cases hF
    exact ⟨rfl, 2000, [], _, rmul30R1 a b hb ty, ae_cons (hd_of (hc)) (ae_cons (hd_of (tl_of (hc))) (ae_cons (hd_of (tl_of (tl_of (hc)))) (ae_cons (hd_of (tl_of (tl_of (tl_of (hc))))) (ae_cons (hd_of (tl_of (tl_of (tl_of (tl_of (hc)))))) (ae_cons (hd_of (tl_of (tl_of (tl_of (tl_of (tl_of (hc))))))) (ae_cons (hd_of (tl_of (tl_of (tl_of (tl_of (tl_of (tl_of (hc)))))))) (ae_nil)))))))⟩
  · cases hF

/-- A size and a sign stand for a number. -/
def SM (m : Int) (n : Bool) (v : Int) : Prop := 0 ≤ m ∧ sgn n m = v
theorem SM.abs {m v : Int} {n : Bool} (h : SM m n v) : m = absV v := by
  obtain ⟨h0, h1⟩ := h
  unfold sgn at h1; unfold absV
  cases n <;> simp at h1 <;> split <;> omega
theorem SM.rnd {m v : Int} {n : Bool} (h : SM m n v) : sgn n ((m + 536870912) / 1073741824) = rndV v 30 := by
  have ha := h.abs
  obtain ⟨h0, h1⟩ := h
  have hh : halfP 30 = 536870912 := rfl
  have hp : pow2 30 = 1073741824 := rfl
  unfold rndV
  rw [hh, hp, ← ha]
  unfold sgn at h1 ⊢
  by_cases hm : m = 0
  · subst hm
    have : (0 + 536870912 : Int) / 1073741824 = 0 := by decide
    rw [this]; simp
  · cases n with
    | true =>
      simp only [if_true] at h1 ⊢
      have : v < 0 := by omega
      simp [this]
    | false =>
      simp only [Bool.false_eq_true, if_false] at h1 ⊢
      have : ¬ v < 0 := by omega
      simp [this]
theorem SM.mul (a b : Int) : SM (absV a * absV b) (!(decide (a < 0) == decide (b < 0))) (a * b) := ⟨Int.mul_nonneg (absV_nn a) (absV_nn b), sgn_mul a b⟩
theorem SM.add {m p v w : Int} {n q : Bool} (h : SM m n v) (k : SM p q w) : SM (addM m n p q) (addN m n p q) (v + w) := by
  obtain ⟨h0, h1⟩ := h
  obtain ⟨k0, k1⟩ := k
  unfold SM addM addN sgn at *
  by_cases e : n = q
  · subst e
    cases n <;> simp at h1 k1 ⊢ <;> omega
  · rw [if_neg e, if_neg e]
    by_cases l : m < p
    · rw [if_pos l, if_pos l]
      cases n <;> cases q <;> simp at h1 k1 e ⊢ <;> omega
    · rw [if_neg l, if_neg l]
      cases n <;> cases q <;> simp at h1 k1 e ⊢ <;> omega
theorem SM.lt {m v : Int} {n : Bool} (h : SM m n v) {k : Int} (h0 : -k ≤ v) (h1 : v ≤ k) : m ≤ k := by
  rw [h.abs]; unfold absV; split <;> omega
theorem isI_satV (a : Int) : isI (satV a) = true := isI_sat a
theorem rnd30 (v : Int) : satV (rndV v 30) = rndS v 30 ∧ satH (rndV v 30) = rndH v 30 := by
  unfold rndS rndH
  rw [if_neg (by decide), if_neg (by decide)]
  exact ⟨rfl, by simp⟩
theorem abs_sat_lt (a b : Int) : absV (satV a) * absV (satV b) ≤ 1329227995784915872903807060280344576 ∧ 0 ≤ absV (satV a) * absV (satV b) := by
  have h1 := sat_bd a
  have h2 := sat_bd b
  have a1 : absV (satV a) ≤ 1152921504606846976 := by unfold absV; split <;> omega
  have a2 : absV (satV b) ≤ 1152921504606846976 := by unfold absV; split <;> omega
  have h3 : absV (satV a) * absV (satV b) ≤ 1152921504606846976 * 1152921504606846976 := Int.mul_le_mul a1 a2 (absV_nn _) (by decide)
  exact ⟨by omega, Int.mul_nonneg (absV_nn _) (absV_nn _)⟩
theorem isU_hl {v : Int} (h0 : 0 ≤ v) (h1 : v < 340282366920938463463374607431768211456) : isU (wHi v) = true ∧ isU (wLo v) = true := ⟨isU_iff.2 (wHi_in v h0 h1), isU_iff.2 (wLo_in v)⟩

/-- The product by 30. -/
def rmul30S : List LV → Bool → Option (LV × Bool × List (Bool × Bool))
  | [.v (.one (.int .i64 a)), .v (.one (.int .i64 b)), .v (.one (.int .i64 30))], hb => some (I (mulV a b 30), hb || mulH a b 30, [])
  | _, _ => none
theorem sumRmul30 (ty : TypeId) : SumOK Try.prog 64 (accSum ty rmul30S) := by
  refine (sumrmul30 ty).acc_re fun args hb v h' cs hF hc => ?_
  unfold rmul30S at hF
  split at hF
  · rename_i a b
    cases hF
    show ∃ cs', rmul30T a b hb = _ ∧ _
    unfold rmul30T
    obtain ⟨g1, g0⟩ := abs_sat_lt a b
    have hr := (SM.mul (satV a) (satV b)).rnd
    obtain ⟨r1, r2⟩ := rnd30 (satV a * satV b)
    obtain ⟨u1, u2⟩ := isU_hl (v := absV (satV a) * absV (satV b)) g0 (by omega)
    obtain ⟨u3, u4⟩ := isU_hl (v := (absV (satV a) * absV (satV b) + 536870912) / 1073741824) (by omega) (by omega)
    refine ⟨_, rfl.trans (congrArg some (Prod.ext ?_ (Prod.ext ?_ rfl))), ?_⟩
    · show LV.v (V1.one (At.int .i64 (satV _))) = I (mulV a b 30)
      rw [wVal_mk, wVal_mk, hr, r1]; rfl
    · show (hb || satH a || satH b || satH _) = (hb || mulH a b 30)
      rw [wVal_mk, wVal_mk, hr, r2]
      unfold mulH
      simp only [Bool.or_assoc]
    · rw [wVal_mk, u1, u2, u3, u4, isI_satV, isI_satV]
      simp only [all_tt, decide_eq_true_eq]
      exact ⟨trivial, trivial, trivial, trivial, by omega, trivial, trivial, ae_nil⟩
  · cases hF

noncomputable def R4S : FuncId → Option SumK := more (more (more R3S 64 (accAny rmul30S)) 35 (pureSum rdivS)) 83 (pureSum rrootS)
theorem soundR4 : Sound Try.prog R4S := ((soundR3.more (accAny_ok sumRmul30)).more sumRdiv).more sumRroot
end Go.Proofs.Ytdkmiliehlhmbaa

/- The second reference's quotients and root of numbers: runs (printed), and what they come to. -/
namespace Go.Proofs.Ytdkmiliehlhmbaa
open Go.Lr
set_option linter.unusedVariables false
set_option linter.unusedSimpArgs false

theorem rm30R1 (a b : Int) (hb : Bool) (ty : TypeId) : (runF Try.prog R4S Zl 2000 27 [A0, .v (.one (.int .i64 a)), .v (.one (.int .i64 b))] [(0, flag ty hb)] 1 []).map acc3 = some (LV.v (V1.one (At.int IntKind.i64 (mulV a b 30))), some { ty := ty, fr := (0, 0), es := 0, cells := [At.bool (hb || mulH a b 30)] }, []) := by kernel_rfl
def rm30T (a b : Int) (hb : Bool) : Option (LV × Bool × List (Bool × Bool)) := some (LV.v (V1.one (At.int IntKind.i64 (mulV a b 30))), (hb || mulH a b 30), [])
def rm30F : List LV → Bool → Option (LV × Bool × List (Bool × Bool))
  | [.v (.one (.int .i64 a)), .v (.one (.int .i64 b))], hb => rm30T a b hb
  | _, _ => none
theorem sumrm30 (ty : TypeId) : SumOK Try.prog 27 (accSum ty rm30F) := by
  refine accSum_run (z := Zl) soundR4 (own_of soundR4 Try.func27 (by kernel_rfl)) fun args hb v h' cs hF hc => ?_
  unfold rm30F at hF
  split at hF
  · rename_i a b
    unfold rm30T at hF
    cases hF
    exact ⟨rfl, 2000, [], _, rm30R1 a b hb ty, ae_nil⟩
  · cases hF

theorem rdiv30R1 (a b : Int) (hb : Bool) (ty : TypeId) : (runF Try.prog R4S Zl 2000 43 [A0, .v (.one (.int .i64 a)), .v (.one (.int .i64 b)), .v (.one (.int .i64 30))] [(0, flag ty hb)] 1 [some true, some true]).map acc3 = some (LV.v (V1.one (At.int IntKind.i64 1152921504606846976)), some { ty := ty, fr := (0, 0), es := 0, cells := [At.bool true] }, [(decide (satV a > 0), true), (satV b == 0, true)]) := by kernel_rfl
theorem rdiv30R2 (a b : Int) (hb : Bool) (ty : TypeId) : (runF Try.prog R4S Zl 2000 43 [A0, .v (.one (.int .i64 a)), .v (.one (.int .i64 b)), .v (.one (.int .i64 30))] [(0, flag ty hb)] 1 [some true, some false, some true]).map acc3 = some (LV.v (V1.one (At.int IntKind.i64 (-1152921504606846976))), some { ty := ty, fr := (0, 0), es := 0, cells := [At.bool true] }, [(decide (satV a < 0), true), (decide (satV a > 0), false), (satV b == 0, true)]) := by kernel_rfl
theorem rdiv30R3 (a b : Int) (hb : Bool) (ty : TypeId) : (runF Try.prog R4S Zl 2000 43 [A0, .v (.one (.int .i64 a)), .v (.one (.int .i64 b)), .v (.one (.int .i64 30))] [(0, flag ty hb)] 1 [some true, some false, some false]).map acc3 = some (LV.v (V1.one (At.int IntKind.i64 0)), some { ty := ty, fr := (0, 0), es := 0, cells := [At.bool true] }, [(decide (satV a < 0), false), (decide (satV a > 0), false), (satV b == 0, true)]) := by kernel_rfl
theorem rdiv30R4 (a b : Int) (hb : Bool) (ty : TypeId) : (runF Try.prog R4S Zl 2000 43 [A0, .v (.one (.int .i64 a)), .v (.one (.int .i64 b)), .v (.one (.int .i64 30))] [(0, flag ty hb)] 1 [some false, none, none]).map acc3 = some (LV.v (V1.one (At.int IntKind.i64 (satV (sgn (!decide (satV a < 0) == decide (satV b < 0)) (wVal (wHi (quoR (wVal (absV (satV a) / pow2 (min (wr IntKind.u64 (wr IntKind.i64 (64 - 30))).toNat IntKind.u64.bits)) (wr IntKind.u64 (absV (satV a) * pow2 (min (wr IntKind.u64 30).toNat IntKind.u64.bits)))) (absV (satV b)))) (wLo (quoR (wVal (absV (satV a) / pow2 (min (wr IntKind.u64 (wr IntKind.i64 (64 - 30))).toNat IntKind.u64.bits)) (wr IntKind.u64 (absV (satV a) * pow2 (min (wr IntKind.u64 30).toNat IntKind.u64.bits)))) (absV (satV b))))))))), some { ty := ty, fr := (0, 0), es := 0, cells := [At.bool (hb || satH a || satH b || satH (sgn (!decide (satV a < 0) == decide (satV b < 0)) (wVal (wHi (quoR (wVal (absV (satV a) / pow2 (min (wr IntKind.u64 (wr IntKind.i64 (64 - 30))).toNat IntKind.u64.bits)) (wr IntKind.u64 (absV (satV a) * pow2 (min (wr IntKind.u64 30).toNat IntKind.u64.bits)))) (absV (satV b)))) (wLo (quoR (wVal (absV (satV a) / pow2 (min (wr IntKind.u64 (wr IntKind.i64 (64 - 30))).toNat IntKind.u64.bits)) (wr IntKind.u64 (absV (satV a) * pow2 (min (wr IntKind.u64 30).toNat IntKind.u64.bits)))) (absV (satV b)))))))] }, [(isU (wHi (quoR (wVal (absV (satV a) / pow2 (min (wr IntKind.u64 (wr IntKind.i64 (64 - 30))).toNat IntKind.u64.bits)) (wr IntKind.u64 (absV (satV a) * pow2 (min (wr IntKind.u64 30).toNat IntKind.u64.bits)))) (absV (satV b)))), true), (isU (wLo (quoR (wVal (absV (satV a) / pow2 (min (wr IntKind.u64 (wr IntKind.i64 (64 - 30))).toNat IntKind.u64.bits)) (wr IntKind.u64 (absV (satV a) * pow2 (min (wr IntKind.u64 30).toNat IntKind.u64.bits)))) (absV (satV b)))), true), (isU (absV (satV a) / pow2 (min (wr IntKind.u64 (wr IntKind.i64 (64 - 30))).toNat IntKind.u64.bits)), true), (isU (wr IntKind.u64 (absV (satV a) * pow2 (min (wr IntKind.u64 30).toNat IntKind.u64.bits))), true), (decide (0 < absV (satV b)), true), (decide (absV (satV b) ≤ 9223372036854775808), true), (isI (satV b), true), (decide (wr IntKind.u64 30 < 0), false), (decide (wr IntKind.u64 (wr IntKind.i64 (64 - 30)) < 0), false), (isI (satV a), true), (satV b == 0, false)]) := by kernel_rfl
def rdiv30T (a b : Int) (hb : Bool) : Option (LV × Bool × List (Bool × Bool)) := 
  bif (satV b == 0) then 
    bif (decide (satV a > 0)) then some (LV.v (V1.one (At.int IntKind.i64 1152921504606846976)), (true), [])
    else 
      bif (decide (satV a < 0)) then some (LV.v (V1.one (At.int IntKind.i64 (-1152921504606846976))), (true), [])
      else some (LV.v (V1.one (At.int IntKind.i64 0)), (true), [])
  else some (LV.v (V1.one (At.int IntKind.i64 (satV (sgn (!decide (satV a < 0) == decide (satV b < 0)) (wVal (wHi (quoR (wVal (absV (satV a) / pow2 (min (wr IntKind.u64 (wr IntKind.i64 (64 - 30))).toNat IntKind.u64.bits)) (wr IntKind.u64 (absV (satV a) * pow2 (min (wr IntKind.u64 30).toNat IntKind.u64.bits)))) (absV (satV b)))) (wLo (quoR (wVal (absV (satV a) / pow2 (min (wr IntKind.u64 (wr IntKind.i64 (64 - 30))).toNat IntKind.u64.bits)) (wr IntKind.u64 (absV (satV a) * pow2 (min (wr IntKind.u64 30).toNat IntKind.u64.bits)))) (absV (satV b))))))))), (hb || satH a || satH b || satH (sgn (!decide (satV a < 0) == decide (satV b < 0)) (wVal (wHi (quoR (wVal (absV (satV a) / pow2 (min (wr IntKind.u64 (wr IntKind.i64 (64 - 30))).toNat IntKind.u64.bits)) (wr IntKind.u64 (absV (satV a) * pow2 (min (wr IntKind.u64 30).toNat IntKind.u64.bits)))) (absV (satV b)))) (wLo (quoR (wVal (absV (satV a) / pow2 (min (wr IntKind.u64 (wr IntKind.i64 (64 - 30))).toNat IntKind.u64.bits)) (wr IntKind.u64 (absV (satV a) * pow2 (min (wr IntKind.u64 30).toNat IntKind.u64.bits)))) (absV (satV b))))))), [(isU (wHi (quoR (wVal (absV (satV a) / pow2 (min (wr IntKind.u64 (wr IntKind.i64 (64 - 30))).toNat IntKind.u64.bits)) (wr IntKind.u64 (absV (satV a) * pow2 (min (wr IntKind.u64 30).toNat IntKind.u64.bits)))) (absV (satV b)))), true), (isU (wLo (quoR (wVal (absV (satV a) / pow2 (min (wr IntKind.u64 (wr IntKind.i64 (64 - 30))).toNat IntKind.u64.bits)) (wr IntKind.u64 (absV (satV a) * pow2 (min (wr IntKind.u64 30).toNat IntKind.u64.bits)))) (absV (satV b)))), true), (isU (absV (satV a) / pow2 (min (wr IntKind.u64 (wr IntKind.i64 (64 - 30))).toNat IntKind.u64.bits)), true), (isU (wr IntKind.u64 (absV (satV a) * pow2 (min (wr IntKind.u64 30).toNat IntKind.u64.bits))), true), (decide (0 < absV (satV b)), true), (decide (absV (satV b) ≤ 9223372036854775808), true), (isI (satV b), true), (decide (wr IntKind.u64 30 < 0), false), (decide (wr IntKind.u64 (wr IntKind.i64 (64 - 30)) < 0), false), (isI (satV a), true)])
def rdiv30F : List LV → Bool → Option (LV × Bool × List (Bool × Bool))
  | [.v (.one (.int .i64 a)), .v (.one (.int .i64 b)), .v (.one (.int .i64 30))], hb => rdiv30T a b hb
  | _, _ => none
theorem sumrdiv30 (ty : TypeId) : SumOK Try.prog 43 (accSum ty rdiv30F) := by
  refine accSum_run (z := Zl) soundR4 (own_of soundR4 Try.func43 (by kernel_rfl)) fun args hb v h' cs hF hc => ?_
  unfold rdiv30F at hF
  split at hF
  · rename_i a b
    unfold rdiv30T at hF
    rcases bool_cases (satV b == 0) with h0 | h0
    · rw [cond_t h0] at hF
      rcases bool_cases (decide (satV a > 0)) with h1 | h1
      · rw [cond_t h1] at hF
        cases hF
        exact ⟨rfl, 2000, [some true, some true], _, rdiv30R1 a b hb ty, ae_cons (h1) (ae_cons (h0) (ae_nil))⟩
      · rw [cond_f h1] at hF
        rcases bool_cases (decide (satV a < 0)) with h2 | h2
        · rw [cond_t h2] at hF
          cases hF
          exact ⟨rfl, 2000, [some true, some false, some true], _, rdiv30R2 a b hb ty, ae_cons (h2) (ae_cons (h1) (ae_cons (h0) (ae_nil)))⟩
        · rw [cond_f h2] at hF
          cases hF
          exact ⟨rfl, 2000, [some true, some false, some false], _, rdiv30R3 a b hb ty, ae_cons (h2) (ae_cons (h1) (ae_cons (h0) (ae_nil)))⟩
    · rw [cond_f h0] at hF
      cases hF
      exact ⟨rfl, 2000, [some false, none, none], _, rdiv30R4 a b hb ty, ae_cons (hd_of (hc)) (ae_cons (hd_of (tl_of (hc))) (ae_cons (hd_of (tl_of (tl_of (hc)))) (ae_cons (hd_of (tl_of (tl_of (tl_of (hc))))) (ae_cons (hd_of (tl_of (tl_of (tl_of (tl_of (hc)))))) (ae_cons (hd_of (tl_of (tl_of (tl_of (tl_of (tl_of (hc))))))) (ae_cons (hd_of (tl_of (tl_of (tl_of (tl_of (tl_of (tl_of (hc)))))))) (ae_cons (hd_of (tl_of (tl_of (tl_of (tl_of (tl_of (tl_of (tl_of (hc))))))))) (ae_cons (hd_of (tl_of (tl_of (tl_of (tl_of (tl_of (tl_of (tl_of (tl_of (hc)))))))))) (ae_cons (hd_of (tl_of (tl_of (tl_of (tl_of (tl_of (tl_of (tl_of (tl_of (tl_of (hc))))))))))) (ae_cons (h0) (ae_nil)))))))))))⟩
  · cases hF

theorem rmdR1 (a b d : Int) (hb : Bool) (ty : TypeId) : (runF Try.prog R4S Zl 2000 7 [A0, .v (.one (.int .i64 a)), .v (.one (.int .i64 b)), .v (.one (.int .i64 d))] [(0, flag ty hb)] 1 [some true, some true, some true, some true, some true, some true]).map acc3 = some (LV.v (V1.one (At.int IntKind.i64 0)), some { ty := ty, fr := (0, 0), es := 0, cells := [At.bool true] }, [(wLo (absV (satV a) * absV (satV b)) == 0, true), (wHi (absV (satV a) * absV (satV b)) == 0, true), (wHi (absV (satV a) * absV (satV b)) == 0, true), (wHi (absV (satV a) * absV (satV b)) == 0, true), (wHi (absV (satV a) * absV (satV b)) == 0, true), (satV d == 0, true), (isI (satV a), true), (isI (satV b), true)]) := by kernel_rfl
theorem rmdR2 (a b d : Int) (hb : Bool) (ty : TypeId) : (runF Try.prog R4S Zl 2000 7 [A0, .v (.one (.int .i64 a)), .v (.one (.int .i64 b)), .v (.one (.int .i64 d))] [(0, flag ty hb)] 1 [some true, some true, some true, some true, some true, some false, some true]).map acc3 = some (LV.v (V1.one (At.int IntKind.i64 (-1152921504606846976))), some { ty := ty, fr := (0, 0), es := 0, cells := [At.bool true] }, [(!decide (satV a < 0) == decide (satV b < 0), true), (wLo (absV (satV a) * absV (satV b)) == 0, false), (wHi (absV (satV a) * absV (satV b)) == 0, true), (wHi (absV (satV a) * absV (satV b)) == 0, true), (wHi (absV (satV a) * absV (satV b)) == 0, true), (wHi (absV (satV a) * absV (satV b)) == 0, true), (satV d == 0, true), (isI (satV a), true), (isI (satV b), true)]) := by kernel_rfl
theorem rmdR3 (a b d : Int) (hb : Bool) (ty : TypeId) : (runF Try.prog R4S Zl 2000 7 [A0, .v (.one (.int .i64 a)), .v (.one (.int .i64 b)), .v (.one (.int .i64 d))] [(0, flag ty hb)] 1 [some true, some true, some true, some true, some true, some false, some false]).map acc3 = some (LV.v (V1.one (At.int IntKind.i64 1152921504606846976)), some { ty := ty, fr := (0, 0), es := 0, cells := [At.bool true] }, [(!decide (satV a < 0) == decide (satV b < 0), false), (wLo (absV (satV a) * absV (satV b)) == 0, false), (wHi (absV (satV a) * absV (satV b)) == 0, true), (wHi (absV (satV a) * absV (satV b)) == 0, true), (wHi (absV (satV a) * absV (satV b)) == 0, true), (wHi (absV (satV a) * absV (satV b)) == 0, true), (satV d == 0, true), (isI (satV a), true), (isI (satV b), true)]) := by kernel_rfl
theorem rmdR4 (a b d : Int) (hb : Bool) (ty : TypeId) : (runF Try.prog R4S Zl 2000 7 [A0, .v (.one (.int .i64 a)), .v (.one (.int .i64 b)), .v (.one (.int .i64 d))] [(0, flag ty hb)] 1 [some true, some false, some false, some false, some false, none, some true]).map acc3 = some (LV.v (V1.one (At.int IntKind.i64 (-1152921504606846976))), some { ty := ty, fr := (0, 0), es := 0, cells := [At.bool true] }, [(!decide (satV a < 0) == decide (satV b < 0), true), (wHi (absV (satV a) * absV (satV b)) == 0, false), (wHi (absV (satV a) * absV (satV b)) == 0, false), (wHi (absV (satV a) * absV (satV b)) == 0, false), (wHi (absV (satV a) * absV (satV b)) == 0, false), (satV d == 0, true), (isI (satV a), true), (isI (satV b), true)]) := by kernel_rfl
theorem rmdR5 (a b d : Int) (hb : Bool) (ty : TypeId) : (runF Try.prog R4S Zl 2000 7 [A0, .v (.one (.int .i64 a)), .v (.one (.int .i64 b)), .v (.one (.int .i64 d))] [(0, flag ty hb)] 1 [some true, some false, some false, some false, some false, none, some false]).map acc3 = some (LV.v (V1.one (At.int IntKind.i64 1152921504606846976)), some { ty := ty, fr := (0, 0), es := 0, cells := [At.bool true] }, [(!decide (satV a < 0) == decide (satV b < 0), false), (wHi (absV (satV a) * absV (satV b)) == 0, false), (wHi (absV (satV a) * absV (satV b)) == 0, false), (wHi (absV (satV a) * absV (satV b)) == 0, false), (wHi (absV (satV a) * absV (satV b)) == 0, false), (satV d == 0, true), (isI (satV a), true), (isI (satV b), true)]) := by kernel_rfl
theorem rmdR6 (a b d : Int) (hb : Bool) (ty : TypeId) : (runF Try.prog R4S Zl 2000 7 [A0, .v (.one (.int .i64 a)), .v (.one (.int .i64 b)), .v (.one (.int .i64 d))] [(0, flag ty hb)] 1 [some false]).map acc3 = some (LV.v (V1.one (At.int IntKind.i64 (satV (sgn (!(!decide (satV a < 0) == decide (satV b < 0)) == decide (satV d < 0)) (wVal (wHi (quoR (wVal (wHi (absV (satV a) * absV (satV b))) (wLo (absV (satV a) * absV (satV b)))) (absV (satV d)))) (wLo (quoR (wVal (wHi (absV (satV a) * absV (satV b))) (wLo (absV (satV a) * absV (satV b)))) (absV (satV d))))))))), some { ty := ty, fr := (0, 0), es := 0, cells := [At.bool (hb || satH a || satH b || satH d || satH (sgn (!(!decide (satV a < 0) == decide (satV b < 0)) == decide (satV d < 0)) (wVal (wHi (quoR (wVal (wHi (absV (satV a) * absV (satV b))) (wLo (absV (satV a) * absV (satV b)))) (absV (satV d)))) (wLo (quoR (wVal (wHi (absV (satV a) * absV (satV b))) (wLo (absV (satV a) * absV (satV b)))) (absV (satV d)))))))] }, [(isU (wHi (quoR (wVal (wHi (absV (satV a) * absV (satV b))) (wLo (absV (satV a) * absV (satV b)))) (absV (satV d)))), true), (isU (wLo (quoR (wVal (wHi (absV (satV a) * absV (satV b))) (wLo (absV (satV a) * absV (satV b)))) (absV (satV d)))), true), (isU (wHi (absV (satV a) * absV (satV b))), true), (isU (wLo (absV (satV a) * absV (satV b))), true), (decide (0 < absV (satV d)), true), (decide (absV (satV d) ≤ 9223372036854775808), true), (isI (satV d), true), (satV d == 0, false), (isI (satV a), true), (isI (satV b), true)]) := by kernel_rfl
def rmdT (a b d : Int) (hb : Bool) : Option (LV × Bool × List (Bool × Bool)) := 
  bif (satV d == 0) then 
    bif (wHi (absV (satV a) * absV (satV b)) == 0) then 
      bif (wLo (absV (satV a) * absV (satV b)) == 0) then some (LV.v (V1.one (At.int IntKind.i64 0)), (true), [(isI (satV a), true), (isI (satV b), true)])
      else 
        bif (!decide (satV a < 0) == decide (satV b < 0)) then some (LV.v (V1.one (At.int IntKind.i64 (-1152921504606846976))), (true), [(isI (satV a), true), (isI (satV b), true)])
        else some (LV.v (V1.one (At.int IntKind.i64 1152921504606846976)), (true), [(isI (satV a), true), (isI (satV b), true)])
    else 
      bif (!decide (satV a < 0) == decide (satV b < 0)) then some (LV.v (V1.one (At.int IntKind.i64 (-1152921504606846976))), (true), [(isI (satV a), true), (isI (satV b), true)])
      else some (LV.v (V1.one (At.int IntKind.i64 1152921504606846976)), (true), [(isI (satV a), true), (isI (satV b), true)])
  else some (LV.v (V1.one (At.int IntKind.i64 (satV (sgn (!(!decide (satV a < 0) == decide (satV b < 0)) == decide (satV d < 0)) (wVal (wHi (quoR (wVal (wHi (absV (satV a) * absV (satV b))) (wLo (absV (satV a) * absV (satV b)))) (absV (satV d)))) (wLo (quoR (wVal (wHi (absV (satV a) * absV (satV b))) (wLo (absV (satV a) * absV (satV b)))) (absV (satV d))))))))), (hb || satH a || satH b || satH d || satH (sgn (!(!decide (satV a < 0) == decide (satV b < 0)) == decide (satV d < 0)) (wVal (wHi (quoR (wVal (wHi (absV (satV a) * absV (satV b))) (wLo (absV (satV a) * absV (satV b)))) (absV (satV d)))) (wLo (quoR (wVal (wHi (absV (satV a) * absV (satV b))) (wLo (absV (satV a) * absV (satV b)))) (absV (satV d))))))), [(isU (wHi (quoR (wVal (wHi (absV (satV a) * absV (satV b))) (wLo (absV (satV a) * absV (satV b)))) (absV (satV d)))), true), (isU (wLo (quoR (wVal (wHi (absV (satV a) * absV (satV b))) (wLo (absV (satV a) * absV (satV b)))) (absV (satV d)))), true), (isU (wHi (absV (satV a) * absV (satV b))), true), (isU (wLo (absV (satV a) * absV (satV b))), true), (decide (0 < absV (satV d)), true), (decide (absV (satV d) ≤ 9223372036854775808), true), (isI (satV d), true), (isI (satV a), true), (isI (satV b), true)])
def rmdF : List LV → Bool → Option (LV × Bool × List (Bool × Bool))
  | [.v (.one (.int .i64 a)), .v (.one (.int .i64 b)), .v (.one (.int .i64 d))], hb => rmdT a b d hb
  | _, _ => none
theorem sumrmd (ty : TypeId) : SumOK Try.prog 7 (accSum ty rmdF) := by
  refine accSum_run (z := Zl) soundR4 (own_of soundR4 Try.func7 (by kernel_rfl)) fun args hb v h' cs hF hc => ?_
  unfold rmdF at hF
  split at hF
  · rename_i a b d
    unfold rmdT at hF
    rcases bool_cases (satV d == 0) with h0 | h0
    · rw [cond_t h0] at hF
      rcases bool_cases (wHi (absV (satV a) * absV (satV b)) == 0) with h1 | h1
      · rw [cond_t h1] at hF
        rcases bool_cases (wLo (absV (satV a) * absV (satV b)) == 0) with h2 | h2
        · rw [cond_t h2] at hF
          cases hF
          exact ⟨rfl, 2000, [some true, some true, some true, some true, some true, some true], _, rmdR1 a b d hb ty, ae_cons (h2) (ae_cons (h1) (ae_cons (h1) (ae_cons (h1) (ae_cons (h1) (ae_cons (h0) (ae_cons (hd_of (hc)) (ae_cons (hd_of (tl_of (hc))) (ae_nil))))))))⟩
        · rw [cond_f h2] at hF
          rcases bool_cases (!decide (satV a < 0) == decide (satV b < 0)) with h3 | h3
          · rw [cond_t h3] at hF
            cases hF
            exact ⟨rfl, 2000, [some true, some true, some true, some true, some true, some false, some true], _, rmdR2 a b d hb ty, ae_cons (h3) (ae_cons (h2) (ae_cons (h1) (ae_cons (h1) (ae_cons (h1) (ae_cons (h1) (ae_cons (h0) (ae_cons (hd_of (hc)) (ae_cons (hd_of (tl_of (hc))) (ae_nil)))))))))⟩
          · rw [cond_f h3] at hF
            cases hF
            exact ⟨rfl, 2000, [some true, some true, some true, some true, some true, some false, some false], _, rmdR3 a b d hb ty, ae_cons (h3) (ae_cons (h2) (ae_cons (h1) (ae_cons (h1) (ae_cons (h1) (ae_cons (h1) (ae_cons (h0) (ae_cons (hd_of (hc)) (ae_cons (hd_of (tl_of (hc))) (ae_nil)))))))))⟩
      · rw [cond_f h1] at hF
        rcases bool_cases (!decide (satV a < 0) == decide (satV b < 0)) with h2 | h2
        · rw [cond_t h2] at hF
          cases hF
          exact ⟨rfl, 2000, [some true, some false, some false, some false, some false, none, some true], _, rmdR4 a b d hb ty, ae_cons (h2) (ae_cons (h1) (ae_cons (h1) (ae_cons (h1) (ae_cons (h1) (ae_cons (h0) (ae_cons (hd_of (hc)) (ae_cons (hd_of (tl_of (hc))) (ae_nil))))))))⟩
        · rw [cond_f h2] at hF
          cases hF
          exact ⟨rfl, 2000, [some true, some false, some false, some false, some false, none, some false], _, rmdR5 a b d hb ty, ae_cons (h2) (ae_cons (h1) (ae_cons (h1) (ae_cons (h1) (ae_cons (h1) (ae_cons (h0) (ae_cons (hd_of (hc)) (ae_cons (hd_of (tl_of (hc))) (ae_nil))))))))⟩
    · rw [cond_f h0] at hF
      cases hF
      exact ⟨rfl, 2000, [some false], _, rmdR6 a b d hb ty, ae_cons (hd_of (hc)) (ae_cons (hd_of (tl_of (hc))) (ae_cons (hd_of (tl_of (tl_of (hc)))) (ae_cons (hd_of (tl_of (tl_of (tl_of (hc))))) (ae_cons (hd_of (tl_of (tl_of (tl_of (tl_of (hc)))))) (ae_cons (hd_of (tl_of (tl_of (tl_of (tl_of (tl_of (hc))))))) (ae_cons (hd_of (tl_of (tl_of (tl_of (tl_of (tl_of (tl_of (hc)))))))) (ae_cons (h0) (ae_cons (hd_of (tl_of (tl_of (tl_of (tl_of (tl_of (tl_of (tl_of (hc))))))))) (ae_cons (hd_of (tl_of (tl_of (tl_of (tl_of (tl_of (tl_of (tl_of (tl_of (hc)))))))))) (ae_nil))))))))))⟩
  · cases hF

theorem quoR_zero {d : Int} (h : 0 < d) : quoR 0 d = 0 := by
  unfold quoR
  rw [Int.zero_emod, Int.zero_ediv, if_neg (by omega)]
theorem quoR_bd {a b : Int} (ha : 0 ≤ a) (hb : 0 < b) : 0 ≤ quoR a b ∧ quoR a b ≤ a + 1 := by
  have h1 := Int.ediv_nonneg ha (Int.le_of_lt hb)
  have h2 := Int.ediv_le_self b ha
  unfold quoR
  split <;> omega
theorem sgn_zero (n : Bool) : sgn n 0 = 0 := by unfold sgn; cases n <;> rfl
theorem div_sm {w d m : Int} {n : Bool} (hd : d ≠ 0) (h : SM m n w) : sgn (!(n == decide (d < 0))) (quoR m (absV d)) = divV w d := by
  have ha := h.abs
  obtain ⟨h0, h1⟩ := h
  have hd0 : 0 < absV d := by unfold absV; split <;> omega
  unfold divV
  rw [← ha]
  by_cases hm : m = 0
  · subst hm
    rw [quoR_zero hd0, sgn_zero, sgn_zero]
  · congr 3
    unfold sgn at h1
    cases n with
    | true => simp only [if_true] at h1; symm; rw [decide_eq_true_eq]; omega
    | false => simp only [Bool.false_eq_true, if_false] at h1; symm; rw [decide_eq_false_iff_not]; omega
theorem sm_shl (a : Int) : SM (absV a * 1073741824) (decide (a < 0)) (a * 1073741824) := by
  refine ⟨by have := absV_nn a; omega, ?_⟩
  unfold sgn absV
  by_cases h : a < 0 <;> simp [h] <;> omega
theorem absV_sat2 (a : Int) : 0 ≤ absV (satV a) ∧ absV (satV a) ≤ 1152921504606846976 := by
  have := sat_bd a
  unfold absV; split <;> omega
theorem shl30 {x : Int} (h0 : 0 ≤ x) (h1 : x ≤ 1152921504606846976) : wVal (x / 17179869184) (wr IntKind.u64 (x * 1073741824)) = x * 1073741824 ∧ isU (x / 17179869184) = true ∧ isU (wr IntKind.u64 (x * 1073741824)) = true := by
  rw [isU_iff, isU_iff, wr_u]
  unfold wVal u64
  omega
theorem absV_pos' {d : Int} (h : d ≠ 0) : 0 < absV d := by unfold absV; split <;> omega

theorem sumRm30 (ty : TypeId) : SumOK Try.prog 27 (accSum ty rm30F) := sumrm30 ty

def rdiv30S : List LV → Bool → Option (LV × Bool × List (Bool × Bool))
  | [.v (.one (.int .i64 a)), .v (.one (.int .i64 b)), .v (.one (.int .i64 30))], hb => some (I (divPV a b 30), hb || divPH a b 30, [])
  | _, _ => none
theorem divP30 (a b : Int) : divPV a b 30 = byV (satV a * 1073741824) (satV b) ∧ divPH a b 30 = (satH a || (satH b || byH (satV a * 1073741824) (satV b))) := by
  have e : pow2 (Int.toNat 30) = 1073741824 := rfl
  unfold divPV divPH
  rw [if_neg (by decide), if_neg (by decide), e]
  exact ⟨rfl, by simp⟩
theorem accE {x x' : Int} {b b' : Bool} {l : List (Bool × Bool)} (h1 : x = x') (h2 : b = b') : some (LV.v (V1.one (At.int .i64 x)), b, l) = some (LV.v (V1.one (At.int .i64 x')), b', l) := by subst h1; subst h2; rfl
theorem sumRdiv30 (ty : TypeId) : SumOK Try.prog 43 (accSum ty rdiv30S) := by
  refine (sumrdiv30 ty).acc_re fun args hb v h' cs hF hc => ?_
  unfold rdiv30S at hF
  split at hF
  · rename_i a b
    cases hF
    show ∃ cs', rdiv30T a b hb = _ ∧ _
    obtain ⟨e1, e2⟩ := divP30 a b
    rw [e1, e2]
    unfold rdiv30T byV byH I
    by_cases hz : satV b = 0
    · rw [cond_t (by simpa using hz), if_pos hz]
      have hbt : (satV b == 0) = true := by simpa using hz
      rw [hbt]
      by_cases h1 : satV a > 0
      · rw [cond_t (decide_eq_true h1), if_neg (by omega), if_neg (by omega)]
        exact ⟨[], accE rfl (by simp), ae_nil⟩
      · rw [cond_f (decide_eq_false h1)]
        by_cases h2 : satV a < 0
        · rw [cond_t (decide_eq_true h2), if_neg (by omega), if_pos (by omega)]
          exact ⟨[], accE rfl (by simp), ae_nil⟩
        · rw [cond_f (decide_eq_false h2), if_pos (by omega)]
          exact ⟨[], accE rfl (by simp), ae_nil⟩
    · have hbf : (satV b == 0) = false := by simpa using hz
      rw [cond_f hbf, if_neg hz, hbf]
      have p1 : pow2 (min (wr IntKind.u64 (wr IntKind.i64 (64 - 30))).toNat IntKind.u64.bits) = 17179869184 := by decide
      have p2 : pow2 (min (wr IntKind.u64 30).toNat IntKind.u64.bits) = 1073741824 := by decide
      obtain ⟨a0, a1⟩ := absV_sat2 a
      obtain ⟨b0, b1⟩ := absV_sat2 b
      obtain ⟨s1, s2, s3⟩ := shl30 a0 a1
      have hd0 := absV_pos' hz
      have hq := quoR_bd (a := absV (satV a) * 1073741824) (b := absV (satV b)) (by omega) hd0
      have hdv := div_sm hz (sm_shl (satV a))
      obtain ⟨u1, u2⟩ := isU_hl (v := quoR (absV (satV a) * 1073741824) (absV (satV b))) hq.1 (by omega)
      rw [p1, p2, s1]
      refine ⟨_, accE ?_ ?_, ?_⟩
      · rw [wVal_mk, hdv]
      · rw [wVal_mk, hdv]; simp only [Bool.or_assoc, Bool.false_or]
      · have d1 : decide (0 < absV (satV b)) = true := decide_eq_true hd0
        have d2 : decide (absV (satV b) ≤ 9223372036854775808) = true := decide_eq_true (by omega)
        have d3 : decide (wr IntKind.u64 30 < 0) = false := by decide
        have d4 : decide (wr IntKind.u64 (wr IntKind.i64 (64 - 30)) < 0) = false := by decide
        rw [u1, u2, s2, s3, d1, d2, isI_satV, isI_satV, d3, d4]
        simp
  · cases hF

theorem mul_zero_iff {a b : Int} : absV a * absV b = 0 ↔ a * b = 0 := by
  rw [← absV_mul]; unfold absV; split <;> omega
theorem hl_zero {v : Int} (h0 : 0 ≤ v) : (wHi v = 0 ∧ wLo v = 0) ↔ v = 0 := by
  unfold wHi wLo; omega
theorem sumRmd (ty : TypeId) : SumOK Try.prog 7 (accSum ty fmdS) := by
  refine (sumrmd ty).acc_re fun args hb v h' cs hF hc => ?_
  unfold fmdS at hF
  split at hF
  · rename_i a b d
    cases hF
    show ∃ cs', rmdT a b d hb = _ ∧ _
    unfold rmdT mulDivV mulDivH byV byH I
    obtain ⟨g1, g0⟩ := abs_sat_lt a b
    have hsm := SM.mul (satV a) (satV b)
    by_cases hz : satV d = 0
    · have hbt : (satV d == 0) = true := by simpa using hz
      rw [cond_t hbt, if_pos hz, hbt]
      have hcs : ∀ c ∈ [(isI (satV a), true), (isI (satV b), true)], c.1 = c.2 := by rw [isI_satV, isI_satV]; simp
      have hzz := hl_zero g0
      have hmz := mul_zero_iff (a := satV a) (b := satV b)
      obtain ⟨-, hsg⟩ := hsm
      unfold sgn at hsg
      generalize absV (satV a) * absV (satV b) = p at *
      generalize satV a * satV b = w at *
      generalize (!(decide (satV a < 0) == decide (satV b < 0))) = n at *
      by_cases h1 : wHi p = 0
      · rw [cond_t (by simpa using h1)]
        by_cases h2 : wLo p = 0
        · have hw := hmz.1 (hzz.1 ⟨h1, h2⟩)
          rw [cond_t (by simpa using h2), if_pos hw]
          exact ⟨_, accE rfl (by simp), hcs⟩
        · have hw : w ≠ 0 := fun e => h2 (hzz.2 (hmz.2 e)).2
          rw [cond_f (by simpa using h2), if_neg hw]
          cases n with
          | true => simp only [if_true] at hsg; rw [cond_true, if_pos (by omega)]; exact ⟨_, accE rfl (by simp), hcs⟩
          | false => simp only [Bool.false_eq_true, if_false] at hsg; rw [cond_false, if_neg (by omega)]; exact ⟨_, accE rfl (by simp), hcs⟩
      · have hw : w ≠ 0 := fun e => h1 (hzz.2 (hmz.2 e)).1
        rw [cond_f (by simpa using h1), if_neg hw]
        cases n with
        | true => simp only [if_true] at hsg; rw [cond_true, if_pos (by omega)]; exact ⟨_, accE rfl (by simp), hcs⟩
        | false => simp only [Bool.false_eq_true, if_false] at hsg; rw [cond_false, if_neg (by omega)]; exact ⟨_, accE rfl (by simp), hcs⟩
    · have hbf : (satV d == 0) = false := by simpa using hz
      rw [cond_f hbf, if_neg hz, hbf]
      obtain ⟨d0, d1⟩ := absV_sat2 d
      have hd0 := absV_pos' hz
      have hq := quoR_bd (a := absV (satV a) * absV (satV b)) (b := absV (satV d)) g0 hd0
      have hdv := div_sm hz hsm
      obtain ⟨u1, u2⟩ := isU_hl (v := quoR (absV (satV a) * absV (satV b)) (absV (satV d))) hq.1 (by omega)
      obtain ⟨u3, u4⟩ := isU_hl (v := absV (satV a) * absV (satV b)) g0 (by omega)
      refine ⟨_, accE ?_ ?_, ?_⟩
      · rw [wVal_mk, wVal_mk, hdv]
      · rw [wVal_mk, wVal_mk, hdv]; simp only [Bool.or_assoc, Bool.false_or]
      · have e1 : decide (0 < absV (satV d)) = true := decide_eq_true hd0
        have e2 : decide (absV (satV d) ≤ 9223372036854775808) = true := decide_eq_true (by omega)
        rw [wVal_mk, u1, u2, u3, u4, e1, e2, isI_satV, isI_satV, isI_satV]
        simp
  · cases hF

noncomputable def R5S : FuncId → Option SumK := more (more (more R4S 27 (accAny rm30F)) 43 (accAny rdiv30S)) 7 (accAny fmdS)
theorem soundR5 : Sound Try.prog R5S := ((soundR4.more (accAny_ok sumRm30)).more (accAny_ok sumRdiv30)).more (accAny_ok sumRmd)
end Go.Proofs.Ytdkmiliehlhmbaa

/- The second reference's sums of products and its lengths: their walks, and what they come to. -/
namespace Go.Proofs.Ytdkmiliehlhmbaa
open Go.Lr
set_option linter.unusedVariables false
set_option linter.unusedSimpArgs false
set_option maxRecDepth 100000

theorem rd_two_a (dead : Nat → Value) (hb : Bool) (tf : TypeId) (oa na ca ob nn cb : Nat) (ty : TypeId) (fr : Nat × Nat) (es : Nat) (l : List At) (ty2 : TypeId) (fr2 : Nat × Nat) (es2 : Nat) (l2 : List At) : projS [0,1,2,3,9] [0,1,2,3] (execL Try.prog R3S Zl 400 (spineL 2 (bodyF Try.prog 49)) (Kst.st ⟨argsL 0 [A0, I 30, SLX 1 oa na ca, SLX 2 ob nn cb], [(0, flag tf hb), (1, ⟨ty, fr, es, l⟩), (2, ⟨ty2, fr2, es2, l2⟩)], 3⟩ 48 dead [])) = some (Ex.normal, [LV.v (V1.one (At.ptr 0 0)), LV.v (V1.one (At.int IntKind.i64 30)), LV.v (V1.one (At.slx 1 oa na ca)), LV.v (V1.one (At.slx 2 ob nn cb)), LV.v (V1.one (At.ptr 3 0))], [some { ty := tf, fr := (0, 0), es := 0, cells := [At.bool hb] }, some { ty := ty, fr := fr, es := es, cells := l }, some { ty := ty2, fr := fr2, es := es2, cells := l2 }, some { ty := 78, fr := (0, 0), es := 0, cells := [At.int IntKind.u64 0, At.int IntKind.u64 0, At.bool false] }], []) := by kernel_rfl
theorem rd_two_b (dead : Nat → Value) (hb : Bool) (tf : TypeId) (oa na ca ob nn cb : Nat) (ty : TypeId) (fr : Nat × Nat) (es : Nat) (l : List At) (ty2 : TypeId) (fr2 : Nat × Nat) (es2 : Nat) (l2 : List At) (x y : Int) (n : Bool) : projS [0,1,2,3,9,10] [0,1,2,3] (exec Try.prog R3S Zl 400 (.code (c1 (c1 (c2 (c2 (bodyF Try.prog 49)))))) (Kst.st ⟨[(0, A0), (1, I 30), (2, SLX 1 oa na ca), (3, SLX 2 ob nn cb), (9, .v (.one (.ptr 3 0)))], [(0, flag tf hb), (1, ⟨ty, fr, es, l⟩), (2, ⟨ty2, fr2, es2, l2⟩), (3, ⟨78, (0,0), 0, [.int .u64 x, .int .u64 y, .bool n]⟩)], 4⟩ 48 dead [])) = some (Ex.normal, [LV.v (V1.one (At.ptr 0 0)), LV.v (V1.one (At.int IntKind.i64 30)), LV.v (V1.one (At.slx 1 oa na ca)), LV.v (V1.one (At.slx 2 ob nn cb)), LV.v (V1.one (At.ptr 3 0)), LV.v (V1.one (At.int IntKind.i64 0))], [some { ty := tf, fr := (0, 0), es := 0, cells := [At.bool hb] }, some { ty := ty, fr := fr, es := es, cells := l }, some { ty := ty2, fr := fr2, es := es2, cells := l2 }, some { ty := 78, fr := (0, 0), es := 0, cells := [At.int IntKind.u64 x, At.int IntKind.u64 y, At.bool n] }], []) := by kernel_rfl
theorem rd_two_c (dead : Nat → Value) (hb : Bool) (tf : TypeId) (oa na ca ob nn cb : Nat) (ty : TypeId) (fr : Nat × Nat) (es : Nat) (l : List At) (ty2 : TypeId) (fr2 : Nat × Nat) (es2 : Nat) (l2 : List At) (x y : Int) (n : Bool) (i : Int) : projS [0,1,2,3,9,10] [0,1,2,3] (exec Try.prog R3S Zl 400 (.code (c1 (c1 (c2 (c1 (c2 (c2 (bodyF Try.prog 49)))))))) (Kst.st ⟨[(0, A0), (1, I 30), (2, SLX 1 oa na ca), (3, SLX 2 ob nn cb), (9, .v (.one (.ptr 3 0))), (10, I i)], [(0, flag tf hb), (1, ⟨ty, fr, es, l⟩), (2, ⟨ty2, fr2, es2, l2⟩), (3, ⟨78, (0,0), 0, [.int .u64 x, .int .u64 y, .bool n]⟩)], 4⟩ 48 dead [some true, some true, some true, some true, some true, some true, some true, some true, some true, some true, some true, some true, some true, some true, some true, some true, some true, some true])) = some (Ex.normal, [LV.v (V1.one (At.ptr 0 0)), LV.v (V1.one (At.int IntKind.i64 30)), LV.v (V1.one (At.slx 1 oa na ca)), LV.v (V1.one (At.slx 2 ob nn cb)), LV.v (V1.one (At.ptr 3 0)), LV.v (V1.one (At.int IntKind.i64 (wr IntKind.i64 (i + 1))))], [some { ty := tf, fr := (0, 0), es := 0, cells := [At.bool (hb || satH (intAt l (oa + i.toNat * 1)) || satH (intAt l2 (ob + i.toNat * 1)))] }, some { ty := ty, fr := fr, es := es, cells := l }, some { ty := ty2, fr := fr2, es := es2, cells := l2 }, some { ty := 78, fr := (0, 0), es := 0, cells := [At.int IntKind.u64 (wHi (addM (wVal x y) n (wVal (wHi (absV (satV (intAt l (oa + i.toNat * 1))) * absV (satV (intAt l2 (ob + i.toNat * 1))))) (wLo (absV (satV (intAt l (oa + i.toNat * 1))) * absV (satV (intAt l2 (ob + i.toNat * 1)))))) !decide (satV (intAt l (oa + i.toNat * 1)) < 0) == decide (satV (intAt l2 (ob + i.toNat * 1)) < 0))), At.int IntKind.u64 (wLo (addM (wVal x y) n (wVal (wHi (absV (satV (intAt l (oa + i.toNat * 1))) * absV (satV (intAt l2 (ob + i.toNat * 1))))) (wLo (absV (satV (intAt l (oa + i.toNat * 1))) * absV (satV (intAt l2 (ob + i.toNat * 1)))))) !decide (satV (intAt l (oa + i.toNat * 1)) < 0) == decide (satV (intAt l2 (ob + i.toNat * 1)) < 0))), At.bool (addN (wVal x y) n (wVal (wHi (absV (satV (intAt l (oa + i.toNat * 1))) * absV (satV (intAt l2 (ob + i.toNat * 1))))) (wLo (absV (satV (intAt l (oa + i.toNat * 1))) * absV (satV (intAt l2 (ob + i.toNat * 1)))))) !decide (satV (intAt l (oa + i.toNat * 1)) < 0) == decide (satV (intAt l2 (ob + i.toNat * 1)) < 0))] }], [(isU x, true), (isU y, true), (isU (wHi (absV (satV (intAt l (oa + i.toNat * 1))) * absV (satV (intAt l2 (ob + i.toNat * 1))))), true), (isU (wLo (absV (satV (intAt l (oa + i.toNat * 1))) * absV (satV (intAt l2 (ob + i.toNat * 1))))), true), (decide (wVal x y + wVal (wHi (absV (satV (intAt l (oa + i.toNat * 1))) * absV (satV (intAt l2 (ob + i.toNat * 1))))) (wLo (absV (satV (intAt l (oa + i.toNat * 1))) * absV (satV (intAt l2 (ob + i.toNat * 1))))) < 340282366920938463463374607431768211456), true), (isI (satV (intAt l (oa + i.toNat * 1))), true), (isI (satV (intAt l2 (ob + i.toNat * 1))), true), (isIntAt IntKind.i64 l2 (ob + i.toNat * 1), true), (decide (0 ≤ i) && decide (i < (nn : Int)), true), (isIntAt IntKind.i64 l (oa + i.toNat * 1), true), (decide (0 ≤ i) && decide (i < (na : Int)), true), (decide (i < 100), true), (decide (i < (nn : Int)), true), (decide (i < (nn : Int)), true), (decide (i < (nn : Int)), true), (decide (i < (na : Int)), true), (decide (i < (na : Int)), true), (decide (i < (na : Int)), true), (decide (i < (na : Int)), true), (decide (i < (na : Int)), true)]) := by kernel_rfl
theorem rd_two_d (dead : Nat → Value) (hb : Bool) (tf : TypeId) (oa na ca ob nn cb : Nat) (ty : TypeId) (fr : Nat × Nat) (es : Nat) (l : List At) (ty2 : TypeId) (fr2 : Nat × Nat) (es2 : Nat) (l2 : List At) (x y : Int) (n : Bool) (i : Int) : projS [0,1,9] [0,1,2,3] (exec Try.prog R3S Zl 400 (.code (c1 (c1 (c2 (c1 (c2 (c2 (bodyF Try.prog 49)))))))) (Kst.st ⟨[(0, A0), (1, I 30), (2, SLX 1 oa na ca), (3, SLX 2 ob nn cb), (9, .v (.one (.ptr 3 0))), (10, I i)], [(0, flag tf hb), (1, ⟨ty, fr, es, l⟩), (2, ⟨ty2, fr2, es2, l2⟩), (3, ⟨78, (0,0), 0, [.int .u64 x, .int .u64 y, .bool n]⟩)], 4⟩ 48 dead [some false, some false, some false, some false, some false, some false, some false])) = some (Ex.exit 0, [LV.v (V1.one (At.ptr 0 0)), LV.v (V1.one (At.int IntKind.i64 30)), LV.v (V1.one (At.ptr 3 0))], [some { ty := tf, fr := (0, 0), es := 0, cells := [At.bool hb] }, some { ty := ty, fr := fr, es := es, cells := l }, some { ty := ty2, fr := fr2, es := es2, cells := l2 }, some { ty := 78, fr := (0, 0), es := 0, cells := [At.int IntKind.u64 x, At.int IntKind.u64 y, At.bool n] }], [(false, false), (false, false), (decide (i < (na : Int)), false), (decide (i < (na : Int)), false), (decide (i < (na : Int)), false), (decide (i < (na : Int)), false), (decide (i < (na : Int)), false)]) := by kernel_rfl
theorem rd_two_e (dead : Nat → Value) (hb : Bool) (tf : TypeId) (oa na ca ob nn cb : Nat) (ty : TypeId) (fr : Nat × Nat) (es : Nat) (l : List At) (ty2 : TypeId) (fr2 : Nat × Nat) (es2 : Nat) (l2 : List At) (x y : Int) (n : Bool) : projS [8] [0,1,2] (exec Try.prog R3S Zl 400 (.code (c2 (c2 (c2 (bodyF Try.prog 49))))) (Kst.st ⟨[(0, A0), (1, I 30), (9, .v (.one (.ptr 3 0)))], [(0, flag tf hb), (1, ⟨ty, fr, es, l⟩), (2, ⟨ty2, fr2, es2, l2⟩), (3, ⟨78, (0,0), 0, [.int .u64 x, .int .u64 y, .bool n]⟩)], 4⟩ 48 dead [])) = some (Ex.ret, [LV.v (V1.one (At.int IntKind.i64 (satV (sgn n (wVal (wHi ((wVal x y + 536870912) / 1073741824)) (wLo ((wVal x y + 536870912) / 1073741824)))))))], [some { ty := tf, fr := (0, 0), es := 0, cells := [At.bool (hb || satH (sgn n (wVal (wHi ((wVal x y + 536870912) / 1073741824)) (wLo ((wVal x y + 536870912) / 1073741824)))))] }, some { ty := ty, fr := fr, es := es, cells := l }, some { ty := ty2, fr := fr2, es := es2, cells := l2 }], [(isU (wHi ((wVal x y + 536870912) / 1073741824)), true), (isU (wLo ((wVal x y + 536870912) / 1073741824)), true), (isU x, true), (isU y, true), (decide (wVal x y + 536870912 < 340282366920938463463374607431768211456), true)]) := by kernel_rfl
theorem rd_one_a (dead : Nat → Value) (hb : Bool) (tf : TypeId) (oa na ca ob nn cb : Nat) (ty : TypeId) (fr : Nat × Nat) (es : Nat) (l : List At) : projS [0,1,2,3,9] [0,1,3] (execL Try.prog R3S Zl 400 (spineL 2 (bodyF Try.prog 49)) (Kst.st ⟨argsL 0 [A0, I 30, SLX 1 oa na ca, SLX 1 ob nn cb], [(0, flag tf hb), (1, ⟨ty, fr, es, l⟩)], 3⟩ 48 dead [])) = some (Ex.normal, [LV.v (V1.one (At.ptr 0 0)), LV.v (V1.one (At.int IntKind.i64 30)), LV.v (V1.one (At.slx 1 oa na ca)), LV.v (V1.one (At.slx 1 ob nn cb)), LV.v (V1.one (At.ptr 3 0))], [some { ty := tf, fr := (0, 0), es := 0, cells := [At.bool hb] }, some { ty := ty, fr := fr, es := es, cells := l }, some { ty := 78, fr := (0, 0), es := 0, cells := [At.int IntKind.u64 0, At.int IntKind.u64 0, At.bool false] }], []) := by kernel_rfl
theorem rd_one_b (dead : Nat → Value) (hb : Bool) (tf : TypeId) (oa na ca ob nn cb : Nat) (ty : TypeId) (fr : Nat × Nat) (es : Nat) (l : List At) (x y : Int) (n : Bool) : projS [0,1,2,3,9,10] [0,1,3] (exec Try.prog R3S Zl 400 (.code (c1 (c1 (c2 (c2 (bodyF Try.prog 49)))))) (Kst.st ⟨[(0, A0), (1, I 30), (2, SLX 1 oa na ca), (3, SLX 1 ob nn cb), (9, .v (.one (.ptr 3 0)))], [(0, flag tf hb), (1, ⟨ty, fr, es, l⟩), (3, ⟨78, (0,0), 0, [.int .u64 x, .int .u64 y, .bool n]⟩)], 4⟩ 48 dead [])) = some (Ex.normal, [LV.v (V1.one (At.ptr 0 0)), LV.v (V1.one (At.int IntKind.i64 30)), LV.v (V1.one (At.slx 1 oa na ca)), LV.v (V1.one (At.slx 1 ob nn cb)), LV.v (V1.one (At.ptr 3 0)), LV.v (V1.one (At.int IntKind.i64 0))], [some { ty := tf, fr := (0, 0), es := 0, cells := [At.bool hb] }, some { ty := ty, fr := fr, es := es, cells := l }, some { ty := 78, fr := (0, 0), es := 0, cells := [At.int IntKind.u64 x, At.int IntKind.u64 y, At.bool n] }], []) := by kernel_rfl
theorem rd_one_c (dead : Nat → Value) (hb : Bool) (tf : TypeId) (oa na ca ob nn cb : Nat) (ty : TypeId) (fr : Nat × Nat) (es : Nat) (l : List At) (x y : Int) (n : Bool) (i : Int) : projS [0,1,2,3,9,10] [0,1,3] (exec Try.prog R3S Zl 400 (.code (c1 (c1 (c2 (c1 (c2 (c2 (bodyF Try.prog 49)))))))) (Kst.st ⟨[(0, A0), (1, I 30), (2, SLX 1 oa na ca), (3, SLX 1 ob nn cb), (9, .v (.one (.ptr 3 0))), (10, I i)], [(0, flag tf hb), (1, ⟨ty, fr, es, l⟩), (3, ⟨78, (0,0), 0, [.int .u64 x, .int .u64 y, .bool n]⟩)], 4⟩ 48 dead [some true, some true, some true, some true, some true, some true, some true, some true, some true, some true, some true, some true, some true, some true, some true, some true, some true, some true])) = some (Ex.normal, [LV.v (V1.one (At.ptr 0 0)), LV.v (V1.one (At.int IntKind.i64 30)), LV.v (V1.one (At.slx 1 oa na ca)), LV.v (V1.one (At.slx 1 ob nn cb)), LV.v (V1.one (At.ptr 3 0)), LV.v (V1.one (At.int IntKind.i64 (wr IntKind.i64 (i + 1))))], [some { ty := tf, fr := (0, 0), es := 0, cells := [At.bool (hb || satH (intAt l (oa + i.toNat * 1)) || satH (intAt l (ob + i.toNat * 1)))] }, some { ty := ty, fr := fr, es := es, cells := l }, some { ty := 78, fr := (0, 0), es := 0, cells := [At.int IntKind.u64 (wHi (addM (wVal x y) n (wVal (wHi (absV (satV (intAt l (oa + i.toNat * 1))) * absV (satV (intAt l (ob + i.toNat * 1))))) (wLo (absV (satV (intAt l (oa + i.toNat * 1))) * absV (satV (intAt l (ob + i.toNat * 1)))))) !decide (satV (intAt l (oa + i.toNat * 1)) < 0) == decide (satV (intAt l (ob + i.toNat * 1)) < 0))), At.int IntKind.u64 (wLo (addM (wVal x y) n (wVal (wHi (absV (satV (intAt l (oa + i.toNat * 1))) * absV (satV (intAt l (ob + i.toNat * 1))))) (wLo (absV (satV (intAt l (oa + i.toNat * 1))) * absV (satV (intAt l (ob + i.toNat * 1)))))) !decide (satV (intAt l (oa + i.toNat * 1)) < 0) == decide (satV (intAt l (ob + i.toNat * 1)) < 0))), At.bool (addN (wVal x y) n (wVal (wHi (absV (satV (intAt l (oa + i.toNat * 1))) * absV (satV (intAt l (ob + i.toNat * 1))))) (wLo (absV (satV (intAt l (oa + i.toNat * 1))) * absV (satV (intAt l (ob + i.toNat * 1)))))) !decide (satV (intAt l (oa + i.toNat * 1)) < 0) == decide (satV (intAt l (ob + i.toNat * 1)) < 0))] }], [(isU x, true), (isU y, true), (isU (wHi (absV (satV (intAt l (oa + i.toNat * 1))) * absV (satV (intAt l (ob + i.toNat * 1))))), true), (isU (wLo (absV (satV (intAt l (oa + i.toNat * 1))) * absV (satV (intAt l (ob + i.toNat * 1))))), true), (decide (wVal x y + wVal (wHi (absV (satV (intAt l (oa + i.toNat * 1))) * absV (satV (intAt l (ob + i.toNat * 1))))) (wLo (absV (satV (intAt l (oa + i.toNat * 1))) * absV (satV (intAt l (ob + i.toNat * 1))))) < 340282366920938463463374607431768211456), true), (isI (satV (intAt l (oa + i.toNat * 1))), true), (isI (satV (intAt l (ob + i.toNat * 1))), true), (isIntAt IntKind.i64 l (ob + i.toNat * 1), true), (decide (0 ≤ i) && decide (i < (nn : Int)), true), (isIntAt IntKind.i64 l (oa + i.toNat * 1), true), (decide (0 ≤ i) && decide (i < (na : Int)), true), (decide (i < 100), true), (decide (i < (nn : Int)), true), (decide (i < (nn : Int)), true), (decide (i < (nn : Int)), true), (decide (i < (na : Int)), true), (decide (i < (na : Int)), true), (decide (i < (na : Int)), true), (decide (i < (na : Int)), true), (decide (i < (na : Int)), true)]) := by kernel_rfl
theorem rd_one_d (dead : Nat → Value) (hb : Bool) (tf : TypeId) (oa na ca ob nn cb : Nat) (ty : TypeId) (fr : Nat × Nat) (es : Nat) (l : List At) (x y : Int) (n : Bool) (i : Int) : projS [0,1,9] [0,1,3] (exec Try.prog R3S Zl 400 (.code (c1 (c1 (c2 (c1 (c2 (c2 (bodyF Try.prog 49)))))))) (Kst.st ⟨[(0, A0), (1, I 30), (2, SLX 1 oa na ca), (3, SLX 1 ob nn cb), (9, .v (.one (.ptr 3 0))), (10, I i)], [(0, flag tf hb), (1, ⟨ty, fr, es, l⟩), (3, ⟨78, (0,0), 0, [.int .u64 x, .int .u64 y, .bool n]⟩)], 4⟩ 48 dead [some false, some false, some false, some false, some false, some false, some false])) = some (Ex.exit 0, [LV.v (V1.one (At.ptr 0 0)), LV.v (V1.one (At.int IntKind.i64 30)), LV.v (V1.one (At.ptr 3 0))], [some { ty := tf, fr := (0, 0), es := 0, cells := [At.bool hb] }, some { ty := ty, fr := fr, es := es, cells := l }, some { ty := 78, fr := (0, 0), es := 0, cells := [At.int IntKind.u64 x, At.int IntKind.u64 y, At.bool n] }], [(false, false), (false, false), (decide (i < (na : Int)), false), (decide (i < (na : Int)), false), (decide (i < (na : Int)), false), (decide (i < (na : Int)), false), (decide (i < (na : Int)), false)]) := by kernel_rfl
theorem rd_one_e (dead : Nat → Value) (hb : Bool) (tf : TypeId) (oa na ca ob nn cb : Nat) (ty : TypeId) (fr : Nat × Nat) (es : Nat) (l : List At) (x y : Int) (n : Bool) : projS [8] [0,1] (exec Try.prog R3S Zl 400 (.code (c2 (c2 (c2 (bodyF Try.prog 49))))) (Kst.st ⟨[(0, A0), (1, I 30), (9, .v (.one (.ptr 3 0)))], [(0, flag tf hb), (1, ⟨ty, fr, es, l⟩), (3, ⟨78, (0,0), 0, [.int .u64 x, .int .u64 y, .bool n]⟩)], 4⟩ 48 dead [])) = some (Ex.ret, [LV.v (V1.one (At.int IntKind.i64 (satV (sgn n (wVal (wHi ((wVal x y + 536870912) / 1073741824)) (wLo ((wVal x y + 536870912) / 1073741824)))))))], [some { ty := tf, fr := (0, 0), es := 0, cells := [At.bool (hb || satH (sgn n (wVal (wHi ((wVal x y + 536870912) / 1073741824)) (wLo ((wVal x y + 536870912) / 1073741824)))))] }, some { ty := ty, fr := fr, es := es, cells := l }], [(isU (wHi ((wVal x y + 536870912) / 1073741824)), true), (isU (wLo ((wVal x y + 536870912) / 1073741824)), true), (isU x, true), (isU y, true), (decide (wVal x y + 536870912 < 340282366920938463463374607431768211456), true)]) := by kernel_rfl
theorem rh_a (dead : Nat → Value) (hb : Bool) (tf : TypeId) (o n c : Nat) (ty : TypeId) (fr : Nat × Nat) (es : Nat) (l : List At) : projS [0,1,5] [0,1,2] (execL Try.prog R4S Zl 400 (spineL 2 (bodyF Try.prog 65)) (Kst.st ⟨argsL 0 [A0, SLX 1 o n c], [(0, flag tf hb), (1, ⟨ty, fr, es, l⟩)], 2⟩ 34 dead [])) = some (Ex.normal, [LV.v (V1.one (At.ptr 0 0)), LV.v (V1.one (At.slx 1 o n c)), LV.v (V1.one (At.ptr 2 0))], [some { ty := tf, fr := (0, 0), es := 0, cells := [At.bool hb] }, some { ty := ty, fr := fr, es := es, cells := l }, some { ty := 78, fr := (0, 0), es := 0, cells := [At.int IntKind.u64 0, At.int IntKind.u64 0, At.bool false] }], []) := by kernel_rfl
theorem rh_b (dead : Nat → Value) (hb : Bool) (tf : TypeId) (o n c : Nat) (ty : TypeId) (fr : Nat × Nat) (es : Nat) (l : List At) (x y : Int) (sg : Bool) : projS [0,1,5,6] [0,1,2] (exec Try.prog R4S Zl 400 (.code (c1 (c1 (c2 (c2 (bodyF Try.prog 65)))))) (Kst.st ⟨[(0, A0), (1, SLX 1 o n c), (5, .v (.one (.ptr 2 0)))], [(0, flag tf hb), (1, ⟨ty, fr, es, l⟩), (2, ⟨78, (0,0), 0, [.int .u64 x, .int .u64 y, .bool sg]⟩)], 3⟩ 34 dead [])) = some (Ex.normal, [LV.v (V1.one (At.ptr 0 0)), LV.v (V1.one (At.slx 1 o n c)), LV.v (V1.one (At.ptr 2 0)), LV.v (V1.one (At.int IntKind.i64 0))], [some { ty := tf, fr := (0, 0), es := 0, cells := [At.bool hb] }, some { ty := ty, fr := fr, es := es, cells := l }, some { ty := 78, fr := (0, 0), es := 0, cells := [At.int IntKind.u64 x, At.int IntKind.u64 y, At.bool sg] }], []) := by kernel_rfl
theorem rh_c (dead : Nat → Value) (hb : Bool) (tf : TypeId) (o n c : Nat) (ty : TypeId) (fr : Nat × Nat) (es : Nat) (l : List At) (x y : Int) (sg : Bool) (i : Int) : projS [0,1,5,6] [0,1,2] (exec Try.prog R4S Zl 400 (.code (c1 (c1 (c2 (c1 (c2 (c2 (bodyF Try.prog 65)))))))) (Kst.st ⟨[(0, A0), (1, SLX 1 o n c), (5, .v (.one (.ptr 2 0))), (6, I i)], [(0, flag tf hb), (1, ⟨ty, fr, es, l⟩), (2, ⟨78, (0,0), 0, [.int .u64 x, .int .u64 y, .bool sg]⟩)], 3⟩ 34 dead [some true, some true, some true, some true, some true, some true, some true, some true])) = some (Ex.normal, [LV.v (V1.one (At.ptr 0 0)), LV.v (V1.one (At.slx 1 o n c)), LV.v (V1.one (At.ptr 2 0)), LV.v (V1.one (At.int IntKind.i64 (wr IntKind.i64 (i + 1))))], [some { ty := tf, fr := (0, 0), es := 0, cells := [At.bool (hb || satH (intAt l (o + i.toNat * 1)))] }, some { ty := ty, fr := fr, es := es, cells := l }, some { ty := 78, fr := (0, 0), es := 0, cells := [At.int IntKind.u64 (wHi (addM (wVal x y) sg (wVal (wHi (absV (satV (intAt l (o + i.toNat * 1))) * absV (satV (intAt l (o + i.toNat * 1))))) (wLo (absV (satV (intAt l (o + i.toNat * 1))) * absV (satV (intAt l (o + i.toNat * 1)))))) !decide (satV (intAt l (o + i.toNat * 1)) < 0) == decide (satV (intAt l (o + i.toNat * 1)) < 0))), At.int IntKind.u64 (wLo (addM (wVal x y) sg (wVal (wHi (absV (satV (intAt l (o + i.toNat * 1))) * absV (satV (intAt l (o + i.toNat * 1))))) (wLo (absV (satV (intAt l (o + i.toNat * 1))) * absV (satV (intAt l (o + i.toNat * 1)))))) !decide (satV (intAt l (o + i.toNat * 1)) < 0) == decide (satV (intAt l (o + i.toNat * 1)) < 0))), At.bool (addN (wVal x y) sg (wVal (wHi (absV (satV (intAt l (o + i.toNat * 1))) * absV (satV (intAt l (o + i.toNat * 1))))) (wLo (absV (satV (intAt l (o + i.toNat * 1))) * absV (satV (intAt l (o + i.toNat * 1)))))) !decide (satV (intAt l (o + i.toNat * 1)) < 0) == decide (satV (intAt l (o + i.toNat * 1)) < 0))] }], [(isU x, true), (isU y, true), (isU (wHi (absV (satV (intAt l (o + i.toNat * 1))) * absV (satV (intAt l (o + i.toNat * 1))))), true), (isU (wLo (absV (satV (intAt l (o + i.toNat * 1))) * absV (satV (intAt l (o + i.toNat * 1))))), true), (decide (wVal x y + wVal (wHi (absV (satV (intAt l (o + i.toNat * 1))) * absV (satV (intAt l (o + i.toNat * 1))))) (wLo (absV (satV (intAt l (o + i.toNat * 1))) * absV (satV (intAt l (o + i.toNat * 1))))) < 340282366920938463463374607431768211456), true), (isI (satV (intAt l (o + i.toNat * 1))), true), (isI (satV (intAt l (o + i.toNat * 1))), true), (isIntAt IntKind.i64 l (o + i.toNat * 1), true), (decide (0 ≤ i) && decide (i < (n : Int)), true), (decide (i < 64), true), (decide (i < (n : Int)), true), (decide (i < (n : Int)), true), (decide (i < (n : Int)), true)]) := by kernel_rfl
theorem rh_d (dead : Nat → Value) (hb : Bool) (tf : TypeId) (o n c : Nat) (ty : TypeId) (fr : Nat × Nat) (es : Nat) (l : List At) (x y : Int) (sg : Bool) (i : Int) : projS [0,5] [0,1,2] (exec Try.prog R4S Zl 400 (.code (c1 (c1 (c2 (c1 (c2 (c2 (bodyF Try.prog 65)))))))) (Kst.st ⟨[(0, A0), (1, SLX 1 o n c), (5, .v (.one (.ptr 2 0))), (6, I i)], [(0, flag tf hb), (1, ⟨ty, fr, es, l⟩), (2, ⟨78, (0,0), 0, [.int .u64 x, .int .u64 y, .bool sg]⟩)], 3⟩ 34 dead [some false, some false, some false])) = some (Ex.exit 0, [LV.v (V1.one (At.ptr 0 0)), LV.v (V1.one (At.ptr 2 0))], [some { ty := tf, fr := (0, 0), es := 0, cells := [At.bool hb] }, some { ty := ty, fr := fr, es := es, cells := l }, some { ty := 78, fr := (0, 0), es := 0, cells := [At.int IntKind.u64 x, At.int IntKind.u64 y, At.bool sg] }], [(decide (i < (n : Int)), false), (decide (i < (n : Int)), false), (decide (i < (n : Int)), false)]) := by kernel_rfl
theorem rh_e (dead : Nat → Value) (hb : Bool) (tf : TypeId) (o n c : Nat) (ty : TypeId) (fr : Nat × Nat) (es : Nat) (l : List At) (x y : Int) (sg : Bool) : projS [4] [0,1] (exec Try.prog R4S Zl 400 (.code (c2 (c2 (c2 (bodyF Try.prog 65))))) (Kst.st ⟨[(0, A0), (5, .v (.one (.ptr 2 0)))], [(0, flag tf hb), (1, ⟨ty, fr, es, l⟩), (2, ⟨78, (0,0), 0, [.int .u64 x, .int .u64 y, .bool sg]⟩)], 3⟩ 34 dead [])) = some (Ex.ret, [LV.v (V1.one (At.int IntKind.i64 (satV (sgn false (wVal (wHi (rootW (wVal x y))) (wLo (rootW (wVal x y))))))))], [some { ty := tf, fr := (0, 0), es := 0, cells := [At.bool (hb || satH (sgn false (wVal (wHi (rootW (wVal x y))) (wLo (rootW (wVal x y))))))] }, some { ty := ty, fr := fr, es := es, cells := l }], [(isU (wHi (rootW (wVal x y))), true), (isU (wLo (rootW (wVal x y))), true), (isU x, true), (isU y, true), (sg, false), (decide (wVal x y ≤ 85070591730234615865843651857942052864), true)]) := by kernel_rfl

theorem SM.bds {M p D e : Int} {n q : Bool} {i m : Nat} (h : SM M n D) (hm : m ≤ 100) (hi : i < m) (b0 : -((i : Int) * 1329227995784915872903807060280344576) ≤ D ∧ D ≤ i * 1329227995784915872903807060280344576) (h0 : 0 ≤ p) (hp : p ≤ 1329227995784915872903807060280344576) :
    0 ≤ M ∧ M < 340282366920938463463374607431768211456 ∧ M + p < 340282366920938463463374607431768211456 := by
  have h1 := h.1
  have h2 := h.lt (k := (i : Int) * 1329227995784915872903807060280344576) b0.1 b0.2
  omega
theorem SM.bdn {M D : Int} {n : Bool} {k j : Nat} (h : SM M n D) (b0 : -(((min 100 k : Nat) : Int) * 1329227995784915872903807060280344576) ≤ D ∧ D ≤ ((min 100 k : Nat) : Int) * 1329227995784915872903807060280344576) :
    0 ≤ M ∧ M + 536870912 < 340282366920938463463374607431768211456 := by
  have h1 := h.1
  have h2 := h.lt (k := ((min 100 k : Nat) : Int) * 1329227995784915872903807060280344576) b0.1 b0.2
  omega

noncomputable def rdBd : Code := c2 (c2 (bodyF Try.prog 49))

def rdAtwo (tf : TypeId) (k1 k2 : Blk) (oa na ca ob nn cb : Nat) (h : Bool) (M : Int) (N : Bool) (i : Int) : Kst := ⟨[(0, A0), (1, I 30), (2, SLX 1 oa na ca), (3, SLX 2 ob nn cb), (9, P3), (10, I i)], [(0, flag tf h), (1, k1), (2, k2), (3, wideB M N)], 4⟩
def rdBtwo (tf : TypeId) (k1 k2 : Blk) (h : Bool) (M : Int) (N : Bool) : Kst := ⟨[(0, A0), (1, I 30), (9, P3)], [(0, flag tf h), (1, k1), (2, k2), (3, wideB M N)], 4⟩
theorem rdSteptwo (tf : TypeId) (k1 k2 : Blk) (oa na ca ob nn cb : Nat) (xs ys : List Int) (hx : SlAt 1 k1 oa na xs) (hy : SlAt 1 k2 ob nn ys) (hb : Bool) (hl : xs.length = ys.length) (hm : xs.length ≤ 100) (i : Nat) (ix : i < xs.length) (M : Int) (N : Bool) (hs : SM M N (dotS (xs.take i) (ys.take i))) :
    ∃ M' N', SM M' N' (dotS (xs.take (i + 1)) (ys.take (i + 1))) ∧
    To Try.prog 48 (c1 (c1 (c2 (c1 rdBd)))) (rdAtwo tf k1 k2 oa na ca ob nn cb (hb || dotFl (xs.take i) (ys.take i)) M N i) .normal (rdAtwo tf k1 k2 oa na ca ob nn cb (hb || dotFl (xs.take (i + 1)) (ys.take (i + 1))) M' N' ((i : Int) + 1)) := by
  obtain ⟨hlen, hat, hok⟩ := hx
  obtain ⟨hlen2, hat2, hok2⟩ := hy
  have iy : i < ys.length := by omega
  have j0 : decide ((i : Int) < (na : Int)) = true := decide_eq_true (by omega)
  have j1 : decide ((i : Int) < (nn : Int)) = true := decide_eq_true (by omega)
  have j2 : decide ((i : Int) < 100) = true := decide_eq_true (by omega)
  have j3 : decide (0 ≤ (i : Int)) = true := decide_eq_true (by omega)
  have e4 : wr .i64 ((i : Int) + 1) = (i : Int) + 1 := w64_in (by omega) (by omega)
  have hx := intAt_of (hat i ix)
  have hy := intAt_of (hat2 i iy)
  have b0 := dotS_bd (xs.take i) (ys.take i)
  rw [List.length_take] at b0
  have hmi : ((min i xs.length : Nat) : Int) = i := by omega
  rw [hmi] at b0
  have e0 : (xs.take i).length = (ys.take i).length := by simp only [List.length_take]; omega
  have e1 : dotS (xs.take (i + 1)) (ys.take (i + 1)) = dotS (xs.take i) (ys.take i) + satV xs[i] * satV ys[i] := by rw [take_snoc xs i ix, take_snoc ys i iy, dotS_app _ _ _ _ e0]
  have e2 : (hb || dotFl (xs.take (i + 1)) (ys.take (i + 1))) = (((hb || dotFl (xs.take i) (ys.take i)) || satH xs[i]) || satH ys[i]) := by rw [take_snoc xs i ix, take_snoc ys i iy, dotFl_app _ _ _ _ e0]; simp [Bool.or_assoc]
  have e3 : ((i : Int)).toNat * 1 = i := by simp
  have hI := isI_sat xs[i]
  have hI2 := isI_sat ys[i]
  rw [e1, e2]
  obtain ⟨p1, p0⟩ := abs_sat_lt xs[i] ys[i]
  obtain ⟨m0, m1, m2⟩ := hs.bds (e := 0) (q := N) hm ix b0 p0 p1
  obtain ⟨u1, u2⟩ := isU_hl m0 m1
  obtain ⟨u3, u4⟩ := isU_hl (v := absV (satV xs[i]) * absV (satV ys[i])) p0 (Int.lt_of_le_of_lt p1 (by decide))
  have hd : decide (M + absV (satV xs[i]) * absV (satV ys[i]) < 340282366920938463463374607431768211456) = true := decide_eq_true m2
  obtain ⟨ty, fr, es, l⟩ := k1
  obtain ⟨ty2, fr2, es2, l2⟩ := k2
  refine ⟨_, _, hs.add (SM.mul (satV xs[i]) (satV ys[i])), ?_⟩
  clear hs b0 m0 m1 m2 p0 p1
  refine To.run (z := Zl) soundR3 (slots := [0, 1, 2, 3, 9, 10]) (blks := [0, 1, 2, 3]) (vs := [A0, I 30, SLX 1 oa na ca, SLX 2 ob nn cb, P3, I ((i : Int) + 1)])
    (bs := [flag tf (((hb || dotFl (xs.take i) (ys.take i)) || satH xs[i]) || satH ys[i]), ⟨ty, fr, es, l⟩, ⟨ty2, fr2, es2, l2⟩, wideB (addM M N (absV (satV xs[i]) * absV (satV ys[i])) (!(decide (satV xs[i] < 0) == decide (satV ys[i] < 0)))) (addN M N (absV (satV xs[i]) * absV (satV ys[i])) (!(decide (satV xs[i] < 0) == decide (satV ys[i] < 0))))]) (nbB := 4)
    (fun dead => rd_two_c dead (hb || dotFl (xs.take i) (ys.take i)) tf oa na ca ob nn cb ty fr es l ty2 fr2 es2 l2 (wHi M) (wLo M) N i) rfl (by rw [e4]; rfl) (by rw [e3, hx.1, hy.1]; simp only [wVal_mk]; rfl) ?_ (kst_ok rfl (memOK4 (Nat.le_refl _) rfl (okL_mono noP_below hok) (okL_mono noP_below hok2) rfl)) (Nat.le_refl _)
  rw [e3, hx.1, hx.2, hy.1, hy.2, hI, hI2]
  simp only [wVal_mk, u1, u2, u3, u4, hd, j0, j1, j2, j3]
  simp
theorem rdEndtwo (tf : TypeId) (k1 k2 : Blk) (oa na ca ob nn cb : Nat) (hok : okL noP k1.cells = true) (hok2 : okL noP k2.cells = true) (h : Bool) (M : Int) (N : Bool) : To Try.prog 48 (c1 (c1 (c2 (c1 rdBd)))) (rdAtwo tf k1 k2 oa na ca ob nn cb h M N na) (.exit 0) (rdBtwo tf k1 k2 h M N) := by
  obtain ⟨ty, fr, es, l⟩ := k1
  obtain ⟨ty2, fr2, es2, l2⟩ := k2
  refine To.exec (z := Zl) soundR3 (slots := [0, 1, 9]) (blks := [0, 1, 2, 3]) (vs := [A0, I 30, P3]) (bs := [flag tf h, ⟨ty, fr, es, l⟩, ⟨ty2, fr2, es2, l2⟩, wideB M N]) (nbB := 4) (fun dead => rd_two_d dead h tf oa na ca ob nn cb ty fr es l ty2 fr2 es2 l2 (wHi M) (wLo M) N na) ?_ (kst_ok rfl (memOK4 (Nat.le_refl _) rfl (okL_mono noP_below hok) (okL_mono noP_below hok2) rfl)) (Nat.le_refl _)
  simp
theorem rdRdtwo (tf : TypeId) (k1 k2 : Blk) (oa na ca ob nn cb : Nat) (xs ys : List Int) (hx : SlAt 1 k1 oa na xs) (hy : SlAt 1 k2 ob nn ys) (hb : Bool) (hl : xs.length = ys.length) (hm : xs.length ≤ 100) : ∀ (j i : Nat), i + j = xs.length → ∀ M N, SM M N (dotS (xs.take i) (ys.take i)) →
    ∃ M' N', SM M' N' (dotS xs ys) ∧ Rd Try.prog 48 (c1 (c1 (c2 (c1 rdBd)))) (j + 1) (rdAtwo tf k1 k2 oa na ca ob nn cb (hb || dotFl (xs.take i) (ys.take i)) M N i) (.exit 0) (rdBtwo tf k1 k2 (hb || dotFl xs ys) M' N')
  | 0, i, h, M, N, hs => by
    have hi : i = xs.length := by omega
    have hi2 : i = ys.length := by omega
    rw [show xs.take i = xs by rw [hi, List.take_length], show ys.take i = ys by rw [hi2, List.take_length]] at hs ⊢
    have hna : i = na := by have := hx.1; omega
    refine ⟨M, N, hs, ?_⟩
    rw [hna]
    exact Rd.last (by simp) (rdEndtwo tf k1 k2 oa na ca ob nn cb hx.2.2 hy.2.2 _ M N)
  | j + 1, i, h, M, N, hs => by
    obtain ⟨M1, N1, h1, h2⟩ := rdSteptwo tf k1 k2 oa na ca ob nn cb xs ys hx hy hb hl hm i (by omega) M N hs
    obtain ⟨M2, N2, h3, h4⟩ := rdRdtwo tf k1 k2 oa na ca ob nn cb xs ys hx hy hb hl hm j (i + 1) (by omega) M1 N1 h1
    exact ⟨M2, N2, h3, Rd.next h2 h4⟩
theorem rdIntwo (tf : TypeId) (k1 k2 : Blk) (oa na ca ob nn cb : Nat) (xs ys : List Int) (hx : SlAt 1 k1 oa na xs) (hy : SlAt 1 k2 ob nn ys) (hb : Bool) (hl : xs.length = ys.length) (hm : xs.length ≤ 100) (E : Env) (w : World) (hrel : Rel E (getM [(0, flag tf hb), (1, k1), (2, k2)]) w) :
    Calls Try.prog 49 ((A0 :: ([I 30] ++ [SLX 1 oa na ca, SLX 2 ob nn cb])).map (LV.den E)).toArray w fun e w' => e = .returned ((I (dotV 30 xs ys)).den E0) ∧ Lcl E [(0, flag tf hb), (1, k1), (2, k2)] [(0, flag tf (hb || dotH 30 xs ys)), (1, k1), (2, k2)] w w' := by
  have hok := hx.2.2
  have hok2 := hy.2.2
  obtain ⟨M, N, hs, hR⟩ := rdRdtwo tf k1 k2 oa na ca ob nn cb xs ys hx hy hb hl hm xs.length 0 (by omega) 0 false ⟨Int.le_refl 0, by simp [dotS, sgn]⟩
  have b0 := dotS_bd (xs.take 100) (ys.take 100)
  rw [List.length_take] at b0
  have t1 : xs.take 100 = xs := List.take_of_length_le hm
  have t2 : ys.take 100 = ys := List.take_of_length_le (by omega)
  rw [t1, t2] at b0
  obtain ⟨r1, r2⟩ := rnd30 (dotS xs ys)
  have hV : dotV 30 xs ys = satV (sgn N ((M + 536870912) / 1073741824)) := by unfold dotV; rw [t1, t2, hs.rnd, r1]
  have hH : (hb || dotH 30 xs ys) = ((hb || dotFl xs ys) || satH (sgn N ((M + 536870912) / 1073741824))) := by unfold dotH; rw [t1, t2, hs.rnd, r2, Bool.or_assoc]
  rw [hV, hH]
  obtain ⟨m0, m1⟩ := hs.bdn (j := 0) b0
  obtain ⟨u1, u2⟩ := isU_hl (v := M) m0 (by omega)
  obtain ⟨u3, u4⟩ := isU_hl (v := (M + 536870912) / 1073741824) (by omega) (by omega)
  have hd : decide (M + 536870912 < 340282366920938463463374607431768211456) = true := decide_eq_true m1
  clear hs b0 r1 r2 m0 m1
  obtain ⟨ty, fr, es, l⟩ := k1
  obtain ⟨ty2, fr2, es2, l2⟩ := k2
  refine lcl_of_To (c := bodyF Try.prog 49) (e := .ret) (nb := 3) (B := ⟨[(8, I (satV (sgn N ((M + 536870912) / 1073741824))))], [(0, flag tf ((hb || dotFl xs ys) || satH (sgn N ((M + 536870912) / 1073741824)))), (1, ⟨ty, fr, es, l⟩), (2, ⟨ty2, fr2, es2, l2⟩)], 4⟩) Try.func49 (by kernel_rfl) (Nat.le_of_ble_eq_true (by kernel_rfl)) (Nat.le_of_ble_eq_true (by kernel_rfl))
    (fun u hu => ?_) (memOK3 (Nat.le_refl _) rfl (okL_mono noP_below hok) (okL_mono noP_below hok2)) ?_ (.inr rfl) (fun dead => by kernel_rfl) rfl (fun i b hib => ?_) E w hrel
  · simp only [List.cons_append, List.nil_append, List.mem_cons, List.not_mem_nil, or_false] at hu
    rcases hu with rfl | rfl | rfl | rfl <;> rfl
  · refine To.spineR (z := Zl) soundR3 (k := 2) (slots := [0, 1, 2, 3, 9]) (blks := [0, 1, 2, 3]) (vs := [A0, I 30, SLX 1 oa na ca, SLX 2 ob nn cb, P3]) (bs := [flag tf hb, ⟨ty, fr, es, l⟩, ⟨ty2, fr2, es2, l2⟩, zeroB]) (nbB := 4) (by kernel_rfl) (fun dead => rd_two_a dead hb tf oa na ca ob nn cb ty fr es l ty2 fr2 es2 l2) rfl rfl rfl (by simp) (kst_ok rfl (memOK4 (Nat.le_refl _) rfl (okL_mono noP_below hok) (okL_mono noP_below hok2) rfl)) (Nat.le_succ 3) ?_
    refine To.seq (by kernel_rfl) (To.seq (by kernel_rfl) (To.run (z := Zl) soundR3 (slots := [0, 1, 2, 3, 9, 10]) (blks := [0, 1, 2, 3]) (vs := [A0, I 30, SLX 1 oa na ca, SLX 2 ob nn cb, P3, I 0]) (bs := [flag tf hb, ⟨ty, fr, es, l⟩, ⟨ty2, fr2, es2, l2⟩, zeroB]) (nbB := 4) (fun dead => rd_two_b dead hb tf oa na ca ob nn cb ty fr es l ty2 fr2 es2 l2 0 0 false) rfl rfl rfl (by simp) (kst_ok rfl (memOK4 (Nat.le_refl _) rfl (okL_mono noP_below hok) (okL_mono noP_below hok2) rfl)) (Nat.le_refl _))
      (To.block (id := 0) (by kernel_rfl) (To.loop (m := xs.length + 1) (by kernel_rfl) ?_) (.inl rfl))) (C := _) (B := rdBtwo tf ⟨ty, fr, es, l⟩ ⟨ty2, fr2, es2, l2⟩ (hb || dotFl xs ys) M N) ?_
    · have hz : rdAtwo tf ⟨ty, fr, es, l⟩ ⟨ty2, fr2, es2, l2⟩ oa na ca ob nn cb (hb || dotFl (xs.take 0) (ys.take 0)) 0 false ((0 : Nat) : Int) = ⟨[0, 1, 2, 3, 9, 10].zip [A0, I 30, SLX 1 oa na ca, SLX 2 ob nn cb, P3, I 0], [0, 1, 2, 3].zip [flag tf hb, ⟨ty, fr, es, l⟩, ⟨ty2, fr2, es2, l2⟩, zeroB], 4⟩ := by
        unfold rdAtwo
        simp only [List.take_zero, dotFl, Bool.or_false]
        rfl
      rw [← hz]
      exact hR
    · refine To.run (z := Zl) soundR3 (slots := [8]) (blks := [0, 1, 2]) (vs := [I (satV (sgn N ((M + 536870912) / 1073741824)))]) (bs := [flag tf ((hb || dotFl xs ys) || satH (sgn N ((M + 536870912) / 1073741824))), ⟨ty, fr, es, l⟩, ⟨ty2, fr2, es2, l2⟩]) (nbB := 4) (fun dead => rd_two_e dead (hb || dotFl xs ys) tf oa na ca ob nn cb ty fr es l ty2 fr2 es2 l2 (wHi M) (wLo M) N) rfl ?_ ?_ ?_ (kst_ok rfl (memOK3 (Nat.le_of_ble_eq_true rfl) rfl (okL_mono noP_below hok) (okL_mono noP_below hok2))) (Nat.le_refl _)
      · rw [wVal_mk, wVal_mk]; rfl
      · rw [wVal_mk, wVal_mk]; rfl
      · rw [wVal_mk, u1, u2, u3, u4, hd]; simp
  · rcases get3 hib with ⟨rfl, rfl⟩ | ⟨rfl, rfl⟩ | ⟨rfl, rfl⟩
    · exact ⟨rfl, by decide, rfl⟩
    · exact ⟨rfl, by decide, okL_mono noP_below hok⟩
    · exact ⟨rfl, by decide, okL_mono noP_below hok2⟩

def rdAone (tf : TypeId) (k1 : Blk) (oa na ca ob nn cb : Nat) (h : Bool) (M : Int) (N : Bool) (i : Int) : Kst := ⟨[(0, A0), (1, I 30), (2, SLX 1 oa na ca), (3, SLX 1 ob nn cb), (9, P3), (10, I i)], [(0, flag tf h), (1, k1), (3, wideB M N)], 4⟩
def rdBone (tf : TypeId) (k1 : Blk) (h : Bool) (M : Int) (N : Bool) : Kst := ⟨[(0, A0), (1, I 30), (9, P3)], [(0, flag tf h), (1, k1), (3, wideB M N)], 4⟩
theorem rdStepone (tf : TypeId) (k1 : Blk) (oa na ca ob nn cb : Nat) (xs ys : List Int) (hx : SlAt 1 k1 oa na xs) (hy : SlAt 1 k1 ob nn ys) (hb : Bool) (hl : xs.length = ys.length) (hm : xs.length ≤ 100) (i : Nat) (ix : i < xs.length) (M : Int) (N : Bool) (hs : SM M N (dotS (xs.take i) (ys.take i))) :
    ∃ M' N', SM M' N' (dotS (xs.take (i + 1)) (ys.take (i + 1))) ∧
    To Try.prog 48 (c1 (c1 (c2 (c1 rdBd)))) (rdAone tf k1 oa na ca ob nn cb (hb || dotFl (xs.take i) (ys.take i)) M N i) .normal (rdAone tf k1 oa na ca ob nn cb (hb || dotFl (xs.take (i + 1)) (ys.take (i + 1))) M' N' ((i : Int) + 1)) := by
  obtain ⟨hlen, hat, hok⟩ := hx
  obtain ⟨hlen2, hat2, hok2⟩ := hy
  have iy : i < ys.length := by omega
  have j0 : decide ((i : Int) < (na : Int)) = true := decide_eq_true (by omega)
  have j1 : decide ((i : Int) < (nn : Int)) = true := decide_eq_true (by omega)
  have j2 : decide ((i : Int) < 100) = true := decide_eq_true (by omega)
  have j3 : decide (0 ≤ (i : Int)) = true := decide_eq_true (by omega)
  have e4 : wr .i64 ((i : Int) + 1) = (i : Int) + 1 := w64_in (by omega) (by omega)
  have hx := intAt_of (hat i ix)
  have hy := intAt_of (hat2 i iy)
  have b0 := dotS_bd (xs.take i) (ys.take i)
  rw [List.length_take] at b0
  have hmi : ((min i xs.length : Nat) : Int) = i := by omega
  rw [hmi] at b0
  have e0 : (xs.take i).length = (ys.take i).length := by simp only [List.length_take]; omega
  have e1 : dotS (xs.take (i + 1)) (ys.take (i + 1)) = dotS (xs.take i) (ys.take i) + satV xs[i] * satV ys[i] := by rw [take_snoc xs i ix, take_snoc ys i iy, dotS_app _ _ _ _ e0]
  have e2 : (hb || dotFl (xs.take (i + 1)) (ys.take (i + 1))) = (((hb || dotFl (xs.take i) (ys.take i)) || satH xs[i]) || satH ys[i]) := by rw [take_snoc xs i ix, take_snoc ys i iy, dotFl_app _ _ _ _ e0]; simp [Bool.or_assoc]
  have e3 : ((i : Int)).toNat * 1 = i := by simp
  have hI := isI_sat xs[i]
  have hI2 := isI_sat ys[i]
  rw [e1, e2]
  obtain ⟨p1, p0⟩ := abs_sat_lt xs[i] ys[i]
  obtain ⟨m0, m1, m2⟩ := hs.bds (e := 0) (q := N) hm ix b0 p0 p1
  obtain ⟨u1, u2⟩ := isU_hl m0 m1
  obtain ⟨u3, u4⟩ := isU_hl (v := absV (satV xs[i]) * absV (satV ys[i])) p0 (Int.lt_of_le_of_lt p1 (by decide))
  have hd : decide (M + absV (satV xs[i]) * absV (satV ys[i]) < 340282366920938463463374607431768211456) = true := decide_eq_true m2
  obtain ⟨ty, fr, es, l⟩ := k1
  refine ⟨_, _, hs.add (SM.mul (satV xs[i]) (satV ys[i])), ?_⟩
  clear hs b0 m0 m1 m2 p0 p1
  refine To.run (z := Zl) soundR3 (slots := [0, 1, 2, 3, 9, 10]) (blks := [0, 1, 3]) (vs := [A0, I 30, SLX 1 oa na ca, SLX 1 ob nn cb, P3, I ((i : Int) + 1)])
    (bs := [flag tf (((hb || dotFl (xs.take i) (ys.take i)) || satH xs[i]) || satH ys[i]), ⟨ty, fr, es, l⟩, wideB (addM M N (absV (satV xs[i]) * absV (satV ys[i])) (!(decide (satV xs[i] < 0) == decide (satV ys[i] < 0)))) (addN M N (absV (satV xs[i]) * absV (satV ys[i])) (!(decide (satV xs[i] < 0) == decide (satV ys[i] < 0))))]) (nbB := 4)
    (fun dead => rd_one_c dead (hb || dotFl (xs.take i) (ys.take i)) tf oa na ca ob nn cb ty fr es l (wHi M) (wLo M) N i) rfl (by rw [e4]; rfl) (by rw [e3, hx.1, hy.1]; simp only [wVal_mk]; rfl) ?_ (kst_ok rfl (memOK3' (Nat.le_refl _) rfl (okL_mono noP_below hok) rfl)) (Nat.le_refl _)
  rw [e3, hx.1, hx.2, hy.1, hy.2, hI, hI2]
  simp only [wVal_mk, u1, u2, u3, u4, hd, j0, j1, j2, j3]
  simp
theorem rdEndone (tf : TypeId) (k1 : Blk) (oa na ca ob nn cb : Nat) (hok : okL noP k1.cells = true) (hok2 : okL noP k1.cells = true) (h : Bool) (M : Int) (N : Bool) : To Try.prog 48 (c1 (c1 (c2 (c1 rdBd)))) (rdAone tf k1 oa na ca ob nn cb h M N na) (.exit 0) (rdBone tf k1 h M N) := by
  obtain ⟨ty, fr, es, l⟩ := k1
  refine To.exec (z := Zl) soundR3 (slots := [0, 1, 9]) (blks := [0, 1, 3]) (vs := [A0, I 30, P3]) (bs := [flag tf h, ⟨ty, fr, es, l⟩, wideB M N]) (nbB := 4) (fun dead => rd_one_d dead h tf oa na ca ob nn cb ty fr es l (wHi M) (wLo M) N na) ?_ (kst_ok rfl (memOK3' (Nat.le_refl _) rfl (okL_mono noP_below hok) rfl)) (Nat.le_refl _)
  simp
theorem rdRdone (tf : TypeId) (k1 : Blk) (oa na ca ob nn cb : Nat) (xs ys : List Int) (hx : SlAt 1 k1 oa na xs) (hy : SlAt 1 k1 ob nn ys) (hb : Bool) (hl : xs.length = ys.length) (hm : xs.length ≤ 100) : ∀ (j i : Nat), i + j = xs.length → ∀ M N, SM M N (dotS (xs.take i) (ys.take i)) →
    ∃ M' N', SM M' N' (dotS xs ys) ∧ Rd Try.prog 48 (c1 (c1 (c2 (c1 rdBd)))) (j + 1) (rdAone tf k1 oa na ca ob nn cb (hb || dotFl (xs.take i) (ys.take i)) M N i) (.exit 0) (rdBone tf k1 (hb || dotFl xs ys) M' N')
  | 0, i, h, M, N, hs => by
    have hi : i = xs.length := by omega
    have hi2 : i = ys.length := by omega
    rw [show xs.take i = xs by rw [hi, List.take_length], show ys.take i = ys by rw [hi2, List.take_length]] at hs ⊢
    have hna : i = na := by have := hx.1; omega
    refine ⟨M, N, hs, ?_⟩
    rw [hna]
    exact Rd.last (by simp) (rdEndone tf k1 oa na ca ob nn cb hx.2.2 hy.2.2 _ M N)
  | j + 1, i, h, M, N, hs => by
    obtain ⟨M1, N1, h1, h2⟩ := rdStepone tf k1 oa na ca ob nn cb xs ys hx hy hb hl hm i (by omega) M N hs
    obtain ⟨M2, N2, h3, h4⟩ := rdRdone tf k1 oa na ca ob nn cb xs ys hx hy hb hl hm j (i + 1) (by omega) M1 N1 h1
    exact ⟨M2, N2, h3, Rd.next h2 h4⟩
theorem rdInone (tf : TypeId) (k1 : Blk) (oa na ca ob nn cb : Nat) (xs ys : List Int) (hx : SlAt 1 k1 oa na xs) (hy : SlAt 1 k1 ob nn ys) (hb : Bool) (hl : xs.length = ys.length) (hm : xs.length ≤ 100) (E : Env) (w : World) (hrel : Rel E (getM [(0, flag tf hb), (1, k1)]) w) :
    Calls Try.prog 49 ((A0 :: ([I 30] ++ [SLX 1 oa na ca, SLX 1 ob nn cb])).map (LV.den E)).toArray w fun e w' => e = .returned ((I (dotV 30 xs ys)).den E0) ∧ Lcl E [(0, flag tf hb), (1, k1)] [(0, flag tf (hb || dotH 30 xs ys)), (1, k1)] w w' := by
  have hok := hx.2.2
  have hok2 := hy.2.2
  obtain ⟨M, N, hs, hR⟩ := rdRdone tf k1 oa na ca ob nn cb xs ys hx hy hb hl hm xs.length 0 (by omega) 0 false ⟨Int.le_refl 0, by simp [dotS, sgn]⟩
  have b0 := dotS_bd (xs.take 100) (ys.take 100)
  rw [List.length_take] at b0
  have t1 : xs.take 100 = xs := List.take_of_length_le hm
  have t2 : ys.take 100 = ys := List.take_of_length_le (by omega)
  rw [t1, t2] at b0
  obtain ⟨r1, r2⟩ := rnd30 (dotS xs ys)
  have hV : dotV 30 xs ys = satV (sgn N ((M + 536870912) / 1073741824)) := by unfold dotV; rw [t1, t2, hs.rnd, r1]
  have hH : (hb || dotH 30 xs ys) = ((hb || dotFl xs ys) || satH (sgn N ((M + 536870912) / 1073741824))) := by unfold dotH; rw [t1, t2, hs.rnd, r2, Bool.or_assoc]
  rw [hV, hH]
  obtain ⟨m0, m1⟩ := hs.bdn (j := 0) b0
  obtain ⟨u1, u2⟩ := isU_hl (v := M) m0 (by omega)
  obtain ⟨u3, u4⟩ := isU_hl (v := (M + 536870912) / 1073741824) (by omega) (by omega)
  have hd : decide (M + 536870912 < 340282366920938463463374607431768211456) = true := decide_eq_true m1
  clear hs b0 r1 r2 m0 m1
  obtain ⟨ty, fr, es, l⟩ := k1
  refine lcl_of_To (c := bodyF Try.prog 49) (e := .ret) (nb := 3) (B := ⟨[(8, I (satV (sgn N ((M + 536870912) / 1073741824))))], [(0, flag tf ((hb || dotFl xs ys) || satH (sgn N ((M + 536870912) / 1073741824)))), (1, ⟨ty, fr, es, l⟩)], 4⟩) Try.func49 (by kernel_rfl) (Nat.le_of_ble_eq_true (by kernel_rfl)) (Nat.le_of_ble_eq_true (by kernel_rfl))
    (fun u hu => ?_) (memOK2 (Nat.le_of_ble_eq_true rfl) rfl (okL_mono noP_below hok)) ?_ (.inr rfl) (fun dead => by kernel_rfl) rfl (fun i b hib => ?_) E w hrel
  · simp only [List.cons_append, List.nil_append, List.mem_cons, List.not_mem_nil, or_false] at hu
    rcases hu with rfl | rfl | rfl | rfl <;> rfl
  · refine To.spineR (z := Zl) soundR3 (k := 2) (slots := [0, 1, 2, 3, 9]) (blks := [0, 1, 3]) (vs := [A0, I 30, SLX 1 oa na ca, SLX 1 ob nn cb, P3]) (bs := [flag tf hb, ⟨ty, fr, es, l⟩, zeroB]) (nbB := 4) (by kernel_rfl) (fun dead => rd_one_a dead hb tf oa na ca ob nn cb ty fr es l) rfl rfl rfl (by simp) (kst_ok rfl (memOK3' (Nat.le_refl _) rfl (okL_mono noP_below hok) rfl)) (Nat.le_succ 3) ?_
    refine To.seq (by kernel_rfl) (To.seq (by kernel_rfl) (To.run (z := Zl) soundR3 (slots := [0, 1, 2, 3, 9, 10]) (blks := [0, 1, 3]) (vs := [A0, I 30, SLX 1 oa na ca, SLX 1 ob nn cb, P3, I 0]) (bs := [flag tf hb, ⟨ty, fr, es, l⟩, zeroB]) (nbB := 4) (fun dead => rd_one_b dead hb tf oa na ca ob nn cb ty fr es l 0 0 false) rfl rfl rfl (by simp) (kst_ok rfl (memOK3' (Nat.le_refl _) rfl (okL_mono noP_below hok) rfl)) (Nat.le_refl _))
      (To.block (id := 0) (by kernel_rfl) (To.loop (m := xs.length + 1) (by kernel_rfl) ?_) (.inl rfl))) (C := _) (B := rdBone tf ⟨ty, fr, es, l⟩ (hb || dotFl xs ys) M N) ?_
    · have hz : rdAone tf ⟨ty, fr, es, l⟩ oa na ca ob nn cb (hb || dotFl (xs.take 0) (ys.take 0)) 0 false ((0 : Nat) : Int) = ⟨[0, 1, 2, 3, 9, 10].zip [A0, I 30, SLX 1 oa na ca, SLX 1 ob nn cb, P3, I 0], [0, 1, 3].zip [flag tf hb, ⟨ty, fr, es, l⟩, zeroB], 4⟩ := by
        unfold rdAone
        simp only [List.take_zero, dotFl, Bool.or_false]
        rfl
      rw [← hz]
      exact hR
    · refine To.run (z := Zl) soundR3 (slots := [8]) (blks := [0, 1]) (vs := [I (satV (sgn N ((M + 536870912) / 1073741824)))]) (bs := [flag tf ((hb || dotFl xs ys) || satH (sgn N ((M + 536870912) / 1073741824))), ⟨ty, fr, es, l⟩]) (nbB := 4) (fun dead => rd_one_e dead (hb || dotFl xs ys) tf oa na ca ob nn cb ty fr es l (wHi M) (wLo M) N) rfl ?_ ?_ ?_ (kst_ok rfl (memOK2 (Nat.le_of_ble_eq_true rfl) rfl (okL_mono noP_below hok))) (Nat.le_refl _)
      · rw [wVal_mk, wVal_mk]; rfl
      · rw [wVal_mk, wVal_mk]; rfl
      · rw [wVal_mk, u1, u2, u3, u4, hd]; simp
  · rcases get2 hib with ⟨rfl, rfl⟩ | ⟨rfl, rfl⟩
    · exact ⟨rfl, by decide, rfl⟩
    · exact ⟨rfl, by decide, okL_mono noP_below hok⟩

/-- Sums of products of two lists of one length, by 30. -/
def rdotS : List AV → Bool → Option (LV × Bool × List (Bool × Bool))
  | [.pl (.v (.one (.int .i64 30))), .ints xs, .ints ys], hb => match Nat.beq xs.length ys.length, Nat.ble 1 xs.length, Nat.ble xs.length 100 with
    | true, true, true => some (I (dotV 30 xs ys), hb || dotH 30 xs ys, [])
    | _, _, _ => none
  | _, _ => none
theorem rdotS_inv {avs : List AV} {hb : Bool} {r : LV × Bool × List (Bool × Bool)} (h : rdotS avs hb = some r) : ∃ xs ys, avs = [.pl (.v (.one (.int .i64 30))), .ints xs, .ints ys] ∧ xs.length = ys.length ∧ 1 ≤ xs.length ∧ xs.length ≤ 100 ∧ r = (I (dotV 30 xs ys), hb || dotH 30 xs ys, []) := by
  unfold rdotS at h
  split at h
  · rename_i xs ys
    split at h
    · rename_i h1 h2 h3
      cases h
      exact ⟨xs, ys, rfl, Nat.eq_of_beq_eq_true h1, Nat.le_of_ble_eq_true h2, Nat.le_of_ble_eq_true h3, rfl⟩
    · cases h
  · cases h
theorem sumRdot (tf : TypeId) : SumOK Try.prog 49 (acSum tf 1 rdotS) := by
  refine acSum2_ok (own_of soundR4 Try.func49 (by kernel_rfl)) (fun avs hb r h => ?_) fun pre xs ys hb v h' cs hF hcc hp hv => ?_
  · obtain ⟨xs, ys, rfl, -⟩ := rdotS_inv h
    exact ⟨[_], _, _, rfl⟩
  · obtain ⟨xs', ys', he, hl, hl1, hm, hr⟩ := rdotS_inv hF
    have hpre : pre = [I 30] ∧ xs = xs' ∧ ys = ys' := by
      match pre with
      | [] => simp at he
      | [p] =>
        simp only [List.map_cons, List.map_nil, List.cons_append, List.nil_append, List.cons.injEq, AV.pl.injEq, AV.ints.injEq, and_true] at he
        obtain ⟨rfl, rfl, rfl⟩ := he
        exact ⟨rfl, rfl, rfl⟩
      | p :: q :: r => simp at he
    obtain ⟨rfl, rfl, rfl⟩ := hpre
    cases hr
    refine ⟨fun k1 oa na ca k2 ob nn cb hx hy E w hrel => rdIntwo tf k1 k2 oa na ca ob nn cb xs ys hx hy hb hl hm E w hrel, fun k1 oa na ca ob nn cb hx hy E w hrel => rdInone tf k1 oa na ca ob nn cb xs ys hx hy hb hl hm E w hrel, fun hx => ?_, fun hy => ?_, fun hx => ?_⟩
    · subst hx; simp at hl1
    · subst hy; have : xs.length = 0 := hl; omega
    · subst hx; simp at hl1

noncomputable def rhBd : Code := c2 (c2 (bodyF Try.prog 65))
def rhA (tf : TypeId) (k : Blk) (o n c : Nat) (h : Bool) (M : Int) (i : Int) : Kst := ⟨[(0, A0), (1, SLX 1 o n c), (5, P2), (6, I i)], [(0, flag tf h), (1, k), (2, wideB M false)], 3⟩
def rhB (tf : TypeId) (k : Blk) (h : Bool) (M : Int) : Kst := ⟨[(0, A0), (5, P2)], [(0, flag tf h), (1, k), (2, wideB M false)], 3⟩
theorem rh_sq (a : Int) : absV a * absV a = a * a := by
  rw [← absV_mul, absV_pos]
  rcases Int.le_total 0 a with h | h
  · exact Int.mul_nonneg h h
  · exact Int.mul_nonneg_of_nonpos_of_nonpos h h
theorem rhStep (tf : TypeId) (k : Blk) (o n c : Nat) (xs : List Int) (hk : SlAt 1 k o n xs) (hb : Bool) (hm : xs.length ≤ 64) (i : Nat) (ix : i < xs.length) :
    To Try.prog 34 (c1 (c1 (c2 (c1 rhBd)))) (rhA tf k o n c (hb || anyH (xs.take i)) (sqS (xs.take i)) i) .normal (rhA tf k o n c (hb || anyH (xs.take (i + 1))) (sqS (xs.take (i + 1))) ((i : Int) + 1)) := by
  obtain ⟨hlen, hat, hok⟩ := hk
  have hx := intAt_of (hat i ix)
  have hs := take_snoc xs i ix
  have b0 := sqS_bd (xs.take i)
  rw [List.length_take] at b0
  have b1 := sq_bd xs[i]
  have hmi : ((min i xs.length : Nat) : Int) = i := by omega
  rw [hmi] at b0
  have e1 : sqS (xs.take (i + 1)) = sqS (xs.take i) + satV xs[i] * satV xs[i] := by rw [hs, sqS_app]; simp [sqS]
  have e2 : (hb || anyH (xs.take (i + 1))) = ((hb || anyH (xs.take i)) || satH xs[i]) := by rw [hs, anyH_app]; simp [anyH, Bool.or_assoc]
  have e3 : ((i : Int)).toNat * 1 = i := by simp
  have e4 : wr .i64 ((i : Int) + 1) = (i : Int) + 1 := w64_in (by omega) (by omega)
  have hI := isI_sat xs[i]
  have hq := rh_sq (satV xs[i])
  have hn : (!(decide (satV xs[i] < 0) == decide (satV xs[i] < 0))) = false := by simp
  rw [e1, e2]
  generalize sqS (xs.take i) = S at *
  obtain ⟨u1, u2⟩ := isU_hl (v := S) b0.1 (by omega)
  obtain ⟨u3, u4⟩ := isU_hl (v := satV xs[i] * satV xs[i]) b1.1 (by omega)
  have hd : decide (S + satV xs[i] * satV xs[i] < 340282366920938463463374607431768211456) = true := decide_eq_true (by omega)
  have j0 : decide ((i : Int) < (n : Int)) = true := decide_eq_true (by omega)
  have j2 : decide ((i : Int) < 64) = true := decide_eq_true (by omega)
  have j3 : decide (0 ≤ (i : Int)) = true := decide_eq_true (by omega)
  clear b0 b1
  have hM : addM S false (satV xs[i] * satV xs[i]) false = S + satV xs[i] * satV xs[i] := by unfold addM; rw [if_pos rfl]
  have hN : addN S false (satV xs[i] * satV xs[i]) false = false := by unfold addN; rw [if_pos rfl]
  obtain ⟨ty, fr, es, l⟩ := k
  refine To.run (z := Zl) soundR4 (slots := [0, 1, 5, 6]) (blks := [0, 1, 2]) (vs := [A0, SLX 1 o n c, P2, I ((i : Int) + 1)])
    (bs := [flag tf ((hb || anyH (xs.take i)) || satH xs[i]), ⟨ty, fr, es, l⟩, wideB (S + satV xs[i] * satV xs[i]) false]) (nbB := 3)
    (fun dead => rh_c dead (hb || anyH (xs.take i)) tf o n c ty fr es l (wHi S) (wLo S) false i) rfl (by rw [e4]; rfl) (by rw [e3, hx.1, hq, hn]; simp only [wVal_mk]; rw [hM, hN]; rfl) ?_ (kst_ok rfl (memOK3 (Nat.le_refl _) rfl (okL_mono noP_below hok) rfl)) (Nat.le_refl _)
  rw [e3, hx.1, hx.2, hI, hq]
  simp only [wVal_mk, u1, u2, u3, u4, hd, j0, j2, j3]
  simp
theorem rhEnd (tf : TypeId) (k : Blk) (o n c : Nat) (hok : okL noP k.cells = true) (h : Bool) (M : Int) : To Try.prog 34 (c1 (c1 (c2 (c1 rhBd)))) (rhA tf k o n c h M n) (.exit 0) (rhB tf k h M) := by
  obtain ⟨ty, fr, es, l⟩ := k
  refine To.exec (z := Zl) soundR4 (slots := [0, 5]) (blks := [0, 1, 2]) (vs := [A0, P2]) (bs := [flag tf h, ⟨ty, fr, es, l⟩, wideB M false]) (nbB := 3) (fun dead => rh_d dead h tf o n c ty fr es l (wHi M) (wLo M) false n) ?_ (kst_ok rfl (memOK3 (Nat.le_refl _) rfl (okL_mono noP_below hok) rfl)) (Nat.le_refl _)
  simp
theorem rhRd (tf : TypeId) (k : Blk) (o n c : Nat) (xs : List Int) (hk : SlAt 1 k o n xs) (hb : Bool) (hm : xs.length ≤ 64) : ∀ (j i : Nat), i + j = xs.length →
    Rd Try.prog 34 (c1 (c1 (c2 (c1 rhBd)))) (j + 1) (rhA tf k o n c (hb || anyH (xs.take i)) (sqS (xs.take i)) i) (.exit 0) (rhB tf k (hb || anyH xs) (sqS xs))
  | 0, i, h => by
    have hi : i = xs.length := by omega
    rw [show xs.take i = xs by rw [hi, List.take_length]]
    have hna : i = n := by have := hk.1; omega
    rw [hna]
    exact Rd.last (by simp) (rhEnd tf k o n c hk.2.2 _ _)
  | j + 1, i, h => Rd.next (rhStep tf k o n c xs hk hb hm i (by omega)) (rhRd tf k o n c xs hk hb hm j (i + 1) (by omega))

/-- Lengths of at least one number, at most 64. -/
def rhypS : List AV → Bool → Option (LV × Bool × List (Bool × Bool))
  | [.ints xs], hb => match Nat.ble 1 xs.length, Nat.ble xs.length 64 with
    | true, true => some (I (hypV xs), hb || hypH xs, [])
    | _, _ => none
  | _, _ => none
theorem rhypS_inv {avs : List AV} {hb : Bool} {r : LV × Bool × List (Bool × Bool)} (h : rhypS avs hb = some r) : ∃ xs, avs = [.ints xs] ∧ 1 ≤ xs.length ∧ xs.length ≤ 64 ∧ r = (I (hypV xs), hb || hypH xs, []) := by
  unfold rhypS at h
  split at h
  · rename_i xs
    split at h
    · rename_i h2 h3
      cases h
      exact ⟨xs, rfl, Nat.le_of_ble_eq_true h2, Nat.le_of_ble_eq_true h3, rfl⟩
    · cases h
  · cases h
theorem sumRhyp (tf : TypeId) : SumOK Try.prog 65 (acSum tf 1 rhypS) := by
  refine acSum1_ok (own_of soundR4 Try.func65 (by kernel_rfl)) (fun avs hb r h => ?_) fun pre xs hb v h' cs hF hcc hp hv => ?_
  · obtain ⟨xs, rfl, -⟩ := rhypS_inv h
    exact ⟨[], _, rfl⟩
  · obtain ⟨xs', he, hl1, hm, hr⟩ := rhypS_inv hF
    have hpre : pre = [] ∧ xs = xs' := by
      match pre with
      | [] => simp at he; exact ⟨rfl, he⟩
      | p :: r => simp at he
    obtain ⟨rfl, rfl⟩ := hpre
    cases hr
    refine ⟨fun k o n c hk hnc E w hrel => ?_, fun hx => ?_⟩
    · have hok := hk.2.2
      have hR := rhRd tf k o n c xs hk hb hm xs.length 0 (by omega)
      have b0 := sqS_bd xs
      have t1 : xs.take 64 = xs := List.take_of_length_le hm
      have hV : hypV xs = satV (rootW (sqS xs)) := by unfold hypV; rw [t1]
      have hH : (hb || hypH xs) = ((hb || anyH xs) || satH (rootW (sqS xs))) := by unfold hypH; rw [t1, Bool.or_assoc]
      rw [hV, hH]
      have hN1 : sqS xs ≤ 85070591730234615865843651857942052864 := by omega
      obtain ⟨u1, u2⟩ := isU_hl (v := sqS xs) b0.1 (by omega)
      have hr0 := (rootW_spec (N := sqS xs) b0.1 (by omega)).1
      have hr1 := root_le (N := sqS xs) (m := 85070591730234615865843651857942052864) b0.1 (by omega) (by omega) (by omega)
      obtain ⟨u3, u4⟩ := isU_hl (v := rootW (sqS xs)) hr0 (by omega)
      have hd : decide (sqS xs ≤ 85070591730234615865843651857942052864) = true := decide_eq_true hN1
      clear b0 hr0 hr1 hN1
      generalize sqS xs = S at *
      obtain ⟨ty, fr, es, l⟩ := k
      refine lcl_of_To (c := bodyF Try.prog 65) (e := .ret) (nb := 2) (B := ⟨[(4, I (satV (rootW S)))], [(0, flag tf ((hb || anyH xs) || satH (rootW S))), (1, ⟨ty, fr, es, l⟩)], 3⟩) Try.func65 (by kernel_rfl) (Nat.le_of_ble_eq_true (by kernel_rfl)) (Nat.le_of_ble_eq_true (by kernel_rfl))
        (fun u hu => ?_) (memOK2 (Nat.le_refl _) rfl (okL_mono noP_below hok)) ?_ (.inr rfl) (fun dead => by kernel_rfl) rfl (fun i b hib => ?_) E w hrel
      · simp only [List.nil_append, List.mem_cons, List.not_mem_nil, or_false] at hu
        rcases hu with rfl | rfl <;> rfl
      · refine To.spineR (z := Zl) soundR4 (k := 2) (slots := [0, 1, 5]) (blks := [0, 1, 2]) (vs := [A0, SLX 1 o n c, P2]) (bs := [flag tf hb, ⟨ty, fr, es, l⟩, zeroB]) (nbB := 3) (by kernel_rfl) (fun dead => rh_a dead hb tf o n c ty fr es l) rfl rfl rfl (by simp) (kst_ok rfl (memOK3 (Nat.le_refl _) rfl (okL_mono noP_below hok) rfl)) (Nat.le_succ 2) ?_
        refine To.seq (by kernel_rfl) (To.seq (by kernel_rfl) (To.run (z := Zl) soundR4 (slots := [0, 1, 5, 6]) (blks := [0, 1, 2]) (vs := [A0, SLX 1 o n c, P2, I 0]) (bs := [flag tf hb, ⟨ty, fr, es, l⟩, zeroB]) (nbB := 3) (fun dead => rh_b dead hb tf o n c ty fr es l 0 0 false) rfl rfl rfl (by simp) (kst_ok rfl (memOK3 (Nat.le_refl _) rfl (okL_mono noP_below hok) rfl)) (Nat.le_refl _))
          (To.block (id := 0) (by kernel_rfl) (To.loop (m := xs.length + 1) (by kernel_rfl) ?_) (.inl rfl))) (C := _) (B := rhB tf ⟨ty, fr, es, l⟩ (hb || anyH xs) S) ?_
        · have hz : rhA tf ⟨ty, fr, es, l⟩ o n c (hb || anyH (xs.take 0)) (sqS (xs.take 0)) ((0 : Nat) : Int) = ⟨[0, 1, 5, 6].zip [A0, SLX 1 o n c, P2, I 0], [0, 1, 2].zip [flag tf hb, ⟨ty, fr, es, l⟩, zeroB], 3⟩ := by
            unfold rhA
            simp only [List.take_zero, anyH, Bool.or_false, sqS]
            rfl
          rw [← hz]
          exact hR
        · refine To.run (z := Zl) soundR4 (slots := [4]) (blks := [0, 1]) (vs := [I (satV (rootW S))]) (bs := [flag tf ((hb || anyH xs) || satH (rootW S)), ⟨ty, fr, es, l⟩]) (nbB := 3) (fun dead => rh_e dead (hb || anyH xs) tf o n c ty fr es l (wHi S) (wLo S) false) rfl ?_ ?_ ?_ (kst_ok rfl (memOK2 (Nat.le_succ 2) rfl (okL_mono noP_below hok))) (Nat.le_refl _)
          · rw [wVal_mk, wVal_mk]; rfl
          · rw [wVal_mk, wVal_mk]; rfl
          · rw [wVal_mk, u1, u2, u3, u4, hd]; simp
      · rcases get2 hib with ⟨rfl, rfl⟩ | ⟨rfl, rfl⟩
        · exact ⟨rfl, by decide, rfl⟩
        · exact ⟨rfl, by decide, okL_mono noP_below hok⟩
    · subst hx; simp at hl1
end Go.Proofs.Ytdkmiliehlhmbaa

/- The second reference, all of it. -/
namespace Go.Proofs.Ytdkmiliehlhmbaa
open Go.Lr
set_option linter.unusedVariables false

noncomputable def R6S : FuncId → Option SumK := more (more R5S 49 (acAny 1 rdotS)) 65 (acAny 1 rhypS)
theorem soundR6 : Sound Try.prog R6S := (soundR5.more (acAny_ok sumRdot)).more (acAny_ok sumRhyp)
theorem rd30R (a b : Int) (hb : Bool) (ty : TypeId) : (runF Try.prog R6S Zl 2000 11 [A0, .v (.one (.int .i64 a)), .v (.one (.int .i64 b))] [(0, flag ty hb)] 1 []).map acc3 = some (LV.v (V1.one (At.int IntKind.i64 (divPV a b 30))), some { ty := ty, fr := (0, 0), es := 0, cells := [At.bool (hb || divPH a b 30)] }, []) := by kernel_rfl
def rd30S : List LV → Bool → Option (LV × Bool × List (Bool × Bool))
  | [.v (.one (.int .i64 a)), .v (.one (.int .i64 b))], hb => some (I (divPV a b 30), hb || divPH a b 30, [])
  | _, _ => none
theorem sumRd30 (ty : TypeId) : SumOK Try.prog 11 (accSum ty rd30S) := by
  refine accSum_run (z := Zl) soundR6 (own_of soundR6 Try.func11 (by kernel_rfl)) fun args hb v h' cs hF hc => ?_
  unfold rd30S at hF
  split at hF
  · rename_i a b
    cases hF
    exact ⟨rfl, 2000, [], _, rd30R a b hb ty, ae_nil⟩
  · cases hF
noncomputable def R7S : FuncId → Option SumK := more R6S 11 (accAny rd30S)
theorem soundR7 : Sound Try.prog R7S := soundR6.more (accAny_ok sumRd30)
end Go.Proofs.Ytdkmiliehlhmbaa

/- trig.Wrap: its runs, and what it comes to. -/
namespace Go.Proofs.Ytdkmiliehlhmbaa
open Go.Lr
set_option linter.unusedVariables false
set_option linter.unusedSimpArgs false

theorem twrapR1 (a : Int) : (runF Try.prog S23 Zl 2000 61 [.v (.one (.int .i64 a))] [] 0 [some true]).map (fun r => (r.1, r.2.2.2)) = some (LV.v (V1.one (At.int IntKind.i64 (wr IntKind.i64 (a.tmod 6746518852 - 6746518852)))), [(decide (a.tmod 6746518852 > 3373259426), true)]) := by kernel_rfl
theorem twrapR2 (a : Int) : (runF Try.prog S23 Zl 2000 61 [.v (.one (.int .i64 a))] [] 0 [some false, some true]).map (fun r => (r.1, r.2.2.2)) = some (LV.v (V1.one (At.int IntKind.i64 (wr IntKind.i64 (a.tmod 6746518852 + 6746518852)))), [(decide (a.tmod 6746518852 ≤ -3373259426), true), (decide (a.tmod 6746518852 > 3373259426), false)]) := by kernel_rfl
theorem twrapR3 (a : Int) : (runF Try.prog S23 Zl 2000 61 [.v (.one (.int .i64 a))] [] 0 [some false, some false]).map (fun r => (r.1, r.2.2.2)) = some (LV.v (V1.one (At.int IntKind.i64 (a.tmod 6746518852))), [(decide (a.tmod 6746518852 ≤ -3373259426), false), (decide (a.tmod 6746518852 > 3373259426), false)]) := by kernel_rfl
def twrapT (a : Int) : Option (LV × List (Bool × Bool)) := 
  bif (decide (a.tmod 6746518852 > 3373259426)) then some (LV.v (V1.one (At.int IntKind.i64 (wr IntKind.i64 (a.tmod 6746518852 - 6746518852)))), [])
  else 
    bif (decide (a.tmod 6746518852 ≤ -3373259426)) then some (LV.v (V1.one (At.int IntKind.i64 (wr IntKind.i64 (a.tmod 6746518852 + 6746518852)))), [])
    else some (LV.v (V1.one (At.int IntKind.i64 (a.tmod 6746518852))), [])
def twrapF : List LV → Option (LV × List (Bool × Bool))
  | [.v (.one (.int .i64 a))] => twrapT a
  | _ => none
theorem sumtwrap : SumOK Try.prog 61 (pureSum twrapF) := by
  refine pureSum_run (z := Zl) sound23 (own_of sound23 Try.func61 (by kernel_rfl)) fun args v cs hF hc => ?_
  unfold twrapF at hF
  split at hF
  · rename_i a
    unfold twrapT at hF
    rcases bool_cases (decide (a.tmod 6746518852 > 3373259426)) with h0 | h0
    · rw [cond_t h0] at hF
      cases hF
      exact ⟨2000, [some true], _, twrapR1 a, ae_cons (h0) (ae_nil)⟩
    · rw [cond_f h0] at hF
      rcases bool_cases (decide (a.tmod 6746518852 ≤ -3373259426)) with h1 | h1
      · rw [cond_t h1] at hF
        cases hF
        exact ⟨2000, [some false, some true], _, twrapR2 a, ae_cons (h1) (ae_cons (h0) (ae_nil))⟩
      · rw [cond_f h1] at hF
        cases hF
        exact ⟨2000, [some false, some false], _, twrapR3 a, ae_cons (h1) (ae_cons (h0) (ae_nil))⟩
  · cases hF

/-- An angle, wrapped. -/
def wrapV (a : Int) : Int := if a.tmod 6746518852 > 3373259426 then a.tmod 6746518852 - 6746518852 else if a.tmod 6746518852 ≤ -3373259426 then a.tmod 6746518852 + 6746518852 else a.tmod 6746518852
theorem tmod_bd (a : Int) : -6746518852 < a.tmod 6746518852 ∧ a.tmod 6746518852 < 6746518852 ∧ ∃ k, a = k * 6746518852 + a.tmod 6746518852 := by
  have h := Int.tmod_add_mul_tdiv a 6746518852
  refine ⟨?_, ?_, a.tdiv 6746518852, by omega⟩
  · have := Int.lt_tmod_of_pos a (show (0 : Int) < 6746518852 by decide); omega
  · exact Int.tmod_lt_of_pos a (by decide)
theorem wrap_spec (a : Int) : -3373259426 < wrapV a ∧ wrapV a ≤ 3373259426 ∧ ∃ k, a = k * 6746518852 + wrapV a := by
  obtain ⟨h0, h1, k, hk⟩ := tmod_bd a
  unfold wrapV
  generalize a.tmod 6746518852 = t at *
  split
  · exact ⟨by omega, by omega, k + 1, by omega⟩
  · split
    · exact ⟨by omega, by omega, k - 1, by omega⟩
    · exact ⟨by omega, by omega, k, by omega⟩
theorem wrap_unique {a w k : Int} (h : a = k * 6746518852 + w) (h0 : -3373259426 < w) (h1 : w ≤ 3373259426) : wrapV a = w := by
  obtain ⟨b0, b1, j, hj⟩ := wrap_spec a
  omega
def wrapS : List LV → Option (LV × List (Bool × Bool))
  | [.v (.one (.int .i64 a))] => some (I (wrapV a), [])
  | _ => none
theorem sumWrap : SumOK Try.prog 61 (pureSum wrapS) := by
  refine sumtwrap.pure_re fun args v cs hF hc => ?_
  unfold wrapS at hF
  split at hF
  · rename_i a
    cases hF
    show ∃ cs', twrapT a = _ ∧ _
    obtain ⟨h0, h1, -⟩ := tmod_bd a
    unfold twrapT wrapV
    generalize a.tmod 6746518852 = t at *
    by_cases c1 : t > 3373259426
    · rw [cond_t (decide_eq_true c1), if_pos c1]
      have e : wr IntKind.i64 (t - 6746518852) = t - 6746518852 := w64_in (by omega) (by omega)
      exact ⟨[], by rw [e]; rfl, ae_nil⟩
    · rw [cond_f (decide_eq_false c1), if_neg c1]
      by_cases c2 : t ≤ -3373259426
      · rw [cond_t (decide_eq_true c2), if_pos c2]
        have e : wr IntKind.i64 (t + 6746518852) = t + 6746518852 := w64_in (by omega) (by omega)
        exact ⟨[], by rw [e]; rfl, ae_nil⟩
      · rw [cond_f (decide_eq_false c2), if_neg c2]
        exact ⟨[], rfl, ae_nil⟩
  · cases hF
end Go.Proofs.Ytdkmiliehlhmbaa

/- The second answer's wrapping of angles: its runs (printed), and what it comes to. -/
namespace Go.Proofs.Ytdkmiliehlhmbaa
open Go.Lr
set_option linter.unusedVariables false
set_option linter.unusedSimpArgs false

theorem r4wrapR1 (a : Int) : (runF Try.prog R7S Zl 2000 28 [.v (.one (.int .i64 a))] [] 0 [some true, some true]).map (fun r => (r.1, r.2.2.2)) = some (LV.v (V1.one (At.int IntKind.i64 (wr IntKind.i64 (wr IntKind.i64 (a.tmod 6746518852 - 6746518852) + 6746518852)))), [(decide (wr IntKind.i64 (a.tmod 6746518852 - 6746518852) ≤ -3373259426), true), (decide (a.tmod 6746518852 > 3373259426), true)]) := by kernel_rfl
theorem r4wrapR2 (a : Int) : (runF Try.prog R7S Zl 2000 28 [.v (.one (.int .i64 a))] [] 0 [some true, some false]).map (fun r => (r.1, r.2.2.2)) = some (LV.v (V1.one (At.int IntKind.i64 (wr IntKind.i64 (a.tmod 6746518852 - 6746518852)))), [(decide (wr IntKind.i64 (a.tmod 6746518852 - 6746518852) ≤ -3373259426), false), (decide (a.tmod 6746518852 > 3373259426), true)]) := by kernel_rfl
theorem r4wrapR3 (a : Int) : (runF Try.prog R7S Zl 2000 28 [.v (.one (.int .i64 a))] [] 0 [some false, some true]).map (fun r => (r.1, r.2.2.2)) = some (LV.v (V1.one (At.int IntKind.i64 (wr IntKind.i64 (a.tmod 6746518852 + 6746518852)))), [(decide (a.tmod 6746518852 ≤ -3373259426), true), (decide (a.tmod 6746518852 > 3373259426), false)]) := by kernel_rfl
theorem r4wrapR4 (a : Int) : (runF Try.prog R7S Zl 2000 28 [.v (.one (.int .i64 a))] [] 0 [some false, some false]).map (fun r => (r.1, r.2.2.2)) = some (LV.v (V1.one (At.int IntKind.i64 (a.tmod 6746518852))), [(decide (a.tmod 6746518852 ≤ -3373259426), false), (decide (a.tmod 6746518852 > 3373259426), false)]) := by kernel_rfl
def r4wrapT (a : Int) : Option (LV × List (Bool × Bool)) := 
  bif (decide (a.tmod 6746518852 > 3373259426)) then 
    bif (decide (wr IntKind.i64 (a.tmod 6746518852 - 6746518852) ≤ -3373259426)) then some (LV.v (V1.one (At.int IntKind.i64 (wr IntKind.i64 (wr IntKind.i64 (a.tmod 6746518852 - 6746518852) + 6746518852)))), [])
    else some (LV.v (V1.one (At.int IntKind.i64 (wr IntKind.i64 (a.tmod 6746518852 - 6746518852)))), [])
  else 
    bif (decide (a.tmod 6746518852 ≤ -3373259426)) then some (LV.v (V1.one (At.int IntKind.i64 (wr IntKind.i64 (a.tmod 6746518852 + 6746518852)))), [])
    else some (LV.v (V1.one (At.int IntKind.i64 (a.tmod 6746518852))), [])
def r4wrapF : List LV → Option (LV × List (Bool × Bool))
  | [.v (.one (.int .i64 a))] => r4wrapT a
  | _ => none
theorem sumr4wrap : SumOK Try.prog 28 (pureSum r4wrapF) := by
  refine pureSum_run (z := Zl) soundR7 (own_of soundR7 Try.func28 (by kernel_rfl)) fun args v cs hF hc => ?_
  unfold r4wrapF at hF
  split at hF
  · rename_i a
    unfold r4wrapT at hF
    rcases bool_cases (decide (a.tmod 6746518852 > 3373259426)) with h0 | h0
    · rw [cond_t h0] at hF
      rcases bool_cases (decide (wr IntKind.i64 (a.tmod 6746518852 - 6746518852) ≤ -3373259426)) with h1 | h1
      · rw [cond_t h1] at hF
        cases hF
        exact ⟨2000, [some true, some true], _, r4wrapR1 a, ae_cons (h1) (ae_cons (h0) (ae_nil))⟩
      · rw [cond_f h1] at hF
        cases hF
        exact ⟨2000, [some true, some false], _, r4wrapR2 a, ae_cons (h1) (ae_cons (h0) (ae_nil))⟩
    · rw [cond_f h0] at hF
      rcases bool_cases (decide (a.tmod 6746518852 ≤ -3373259426)) with h1 | h1
      · rw [cond_t h1] at hF
        cases hF
        exact ⟨2000, [some false, some true], _, r4wrapR3 a, ae_cons (h1) (ae_cons (h0) (ae_nil))⟩
      · rw [cond_f h1] at hF
        cases hF
        exact ⟨2000, [some false, some false], _, r4wrapR4 a, ae_cons (h1) (ae_cons (h0) (ae_nil))⟩
  · cases hF

theorem sumR4wrap : SumOK Try.prog 28 (pureSum wrapS) := by
  refine sumr4wrap.pure_re fun args v cs hF hc => ?_
  unfold wrapS at hF
  split at hF
  · rename_i a
    cases hF
    show ∃ cs', r4wrapT a = _ ∧ _
    obtain ⟨h0, h1, -⟩ := tmod_bd a
    unfold r4wrapT wrapV
    generalize a.tmod 6746518852 = t at *
    by_cases c1 : t > 3373259426
    · have e : wr IntKind.i64 (t - 6746518852) = t - 6746518852 := w64_in (by omega) (by omega)
      rw [cond_t (decide_eq_true c1), if_pos c1, e, cond_f (decide_eq_false (by omega))]
      exact ⟨[], rfl, ae_nil⟩
    · rw [cond_f (decide_eq_false c1), if_neg c1]
      by_cases c2 : t ≤ -3373259426
      · rw [cond_t (decide_eq_true c2), if_pos c2]
        have e : wr IntKind.i64 (t + 6746518852) = t + 6746518852 := w64_in (by omega) (by omega)
        exact ⟨[], by rw [e]; rfl, ae_nil⟩
      · rw [cond_f (decide_eq_false c2), if_neg c2]
        exact ⟨[], rfl, ae_nil⟩
  · cases hF
noncomputable def S34 : FuncId → Option SumK := more (more R7S 61 (pureSum wrapS)) 28 (pureSum wrapS)
theorem sound34 : Sound Try.prog S34 := (soundR7.more sumWrap).more sumR4wrap
end Go.Proofs.Ytdkmiliehlhmbaa

/- Summaries of methods with slices, told in other words; fx.Add without an ask. -/
namespace Go.Lr
open Go.RowKit
theorem SumOK.ac_re {P : Program} {f : FuncId} {ty : TypeId} {es : Nat} {F F' : List AV → Bool → Option (LV × Bool × List (Bool × Bool))} (h : SumOK P f (acSum ty es F))
    (hi : ∀ avs hb v h' cs, F' avs hb = some (v, h', cs) → (∀ c ∈ cs, c.1 = c.2) → ∃ cs', F avs hb = some (v, h', cs') ∧ ∀ c ∈ cs', c.1 = c.2) : SumOK P f (acSum ty es F') := by
  intro args t g nb p rdB wrB ans ws E w hs hr hw hnd hgo hz hc hrel hg hargs hn
  unfold acSum at hs
  split at hs
  · rename_i c rest
    split at hs
    · rename_i bl hbl
      split at hs
      · rename_i hm
        cases hs
        simp only at hgo hw hr hz
        split at hgo
        · rename_i t' hb
          split at hgo
          · rename_i hty
            split at hgo
            · rename_i avs cs0 hav
              split at hgo
              · rename_i v h' cs hF
                split at hgo
                · rename_i hv
                  cases hgo
                  obtain ⟨cs', h1, h2⟩ := hi avs hb v h' cs hF fun d hd => hc d (List.mem_append_right _ hd)
                  refine h (.v (.one (.ptr c 0)) :: rest) (acT ty es F c rest bl) g nb p rdB _ ⟨v, [flag ty h'], [], cs0 ++ cs'⟩ ws E w (by unfold acSum; simp only [hbl, hm]; rfl) hr hw hnd ?_ hz (fun d hd => (List.mem_append.1 hd).elim (fun hd => hc d (List.mem_append_left _ hd)) (h2 d)) hrel hg hargs hn
                  simp only [acT, hty, hav, h1, hv]
                · cases hgo
              · cases hgo
            · cases hgo
          · cases hgo
        · cases hgo
      · cases hs
    · cases hs
  · cases hs
end Go.Lr
namespace Go.Proofs.Ytdkmiliehlhmbaa
open Go.Lr
set_option linter.unusedVariables false
def faddS' : List AV → Bool → Option (LV × Bool × List (Bool × Bool))
  | [.ints xs], hb => match Nat.ble xs.length 1000 with
    | true => some (I (faddV xs), hb || faddH xs, [])
    | false => none
  | _, _ => none
theorem sumFadd' : SumOK Try.prog 96 (acSum 41 1 faddS') := by
  refine sumFadd.ac_re fun avs hb v h' cs hF hc => ?_
  unfold faddS' at hF
  split at hF
  · rename_i xs
    split at hF
    · rename_i hl
      cases hF
      have := Nat.le_of_ble_eq_true hl
      exact ⟨_, rfl, ae_cons (decide_eq_true (by omega)) ae_nil⟩
    · cases hF
  · cases hF
noncomputable def S35 : FuncId → Option SumK := more S34 96 (acSum 41 1 faddS')
theorem sound35 : Sound Try.prog S35 := sound34.more sumFadd'
end Go.Proofs.Ytdkmiliehlhmbaa

/- trig.Atan2: its runs, against what it computes. -/
namespace Go.Proofs.Ytdkmiliehlhmbaa
open Go.Lr
set_option linter.unusedVariables false
set_option linter.unusedSimpArgs false

/-- A polynomial's value: the coefficients, the highest first (s: so far). -/
def serV (z : Int) : Int → List Int → Int
  | s, [] => s
  | s, k :: l => serV z (faddV [k, mulV z s 30]) l
def serHb (z : Int) : Bool → Int → List Int → Bool
  | h, s, [] => h
  | h, s, k :: l => serHb z (h || mulH z s 30 || faddH [k, mulV z s 30]) (faddV [k, mulV z s 30]) l
def atL : List Int := [51130563, -56512728, 63161284, -71582788, 82595525, -97612893, 119304647, -153391689, 214748365, -357913941, 1073741824]
def mnV (y x : Int) : Int := if fabsV (satV x) < fabsV (satV y) then fabsV (satV x) else fabsV (satV y)
def mxV (y x : Int) : Int := if fabsV (satV x) > fabsV (satV y) then fabsV (satV x) else fabsV (satV y)
def t0V (y x : Int) : Int := divPV (mnV y x) (mxV y x) 30
def ttV (big : Bool) (t0 : Int) : Int := bif big then divPV (wr IntKind.i64 (t0 - 1073741824)) (wr IntKind.i64 (t0 + 1073741824)) 30 else t0
def r0V (big : Bool) (t0 : Int) : Int := wr IntKind.i64 ((bif big then 843314857 else 0) + mulV (ttV big t0) (serV (mulV (ttV big t0) (ttV big t0) 30) (-46684427) atL) 30)
def atanB (big steep xn yn : Bool) (t0 : Int) : Int :=
  bif yn then wr IntKind.i64 (0 - (bif xn then wr IntKind.i64 (3373259426 - (bif steep then wr IntKind.i64 (1686629713 - r0V big t0) else r0V big t0)) else (bif steep then wr IntKind.i64 (1686629713 - r0V big t0) else r0V big t0)))
  else (bif xn then wr IntKind.i64 (3373259426 - (bif steep then wr IntKind.i64 (1686629713 - r0V big t0) else r0V big t0)) else (bif steep then wr IntKind.i64 (1686629713 - r0V big t0) else r0V big t0))
def atanHB (big : Bool) (y x : Int) (h : Bool) : Bool :=
  serHb (mulV (ttV big (t0V y x)) (ttV big (t0V y x)) 30) ((bif big then h || divPH (mnV y x) (mxV y x) 30 || divPH (wr IntKind.i64 (t0V y x - 1073741824)) (wr IntKind.i64 (t0V y x + 1073741824)) 30 else h || divPH (mnV y x) (mxV y x) 30) || mulH (ttV big (t0V y x)) (ttV big (t0V y x)) 30) (-46684427) atL || mulH (ttV big (t0V y x)) (serV (mulV (ttV big (t0V y x)) (ttV big (t0V y x)) 30) (-46684427) atL) 30

theorem atZ (y x : Int) (hb : Bool) : (runF Try.prog S35 Zl 2000 59 [A0, I y, I x] [(0, flag 41 hb)] 1 [some true]).map acc3 = some (I 0, some (flag 41 (hb || satH y || satH x)), [(mxV y x == 0, true)]) := by kernel_rfl
theorem attttt (y x : Int) (hb : Bool) : (runF Try.prog S35 Zl 2000 59 [A0, I y, I x] [(0, flag 41 hb)] 1 [some false, some true, none, none, none, none, none, none, none, none, none, none, none, none, some true, some true, some true]).map acc3 = some (I (atanB true true true true (t0V y x)), some (flag 41 (atanHB true y x (hb || satH y || satH x))), [(decide (satV y < 0), true), (decide (satV x < 0), true), (decide (fabsV (satV y) > fabsV (satV x)), true), (decide (t0V y x > 444758426), true), (mxV y x == 0, false)]) := by kernel_rfl
theorem attttf (y x : Int) (hb : Bool) : (runF Try.prog S35 Zl 2000 59 [A0, I y, I x] [(0, flag 41 hb)] 1 [some false, some true, none, none, none, none, none, none, none, none, none, none, none, none, some true, some true, some false]).map acc3 = some (I (atanB true true true false (t0V y x)), some (flag 41 (atanHB true y x (hb || satH y || satH x))), [(decide (satV y < 0), false), (decide (satV x < 0), true), (decide (fabsV (satV y) > fabsV (satV x)), true), (decide (t0V y x > 444758426), true), (mxV y x == 0, false)]) := by kernel_rfl
theorem atttft (y x : Int) (hb : Bool) : (runF Try.prog S35 Zl 2000 59 [A0, I y, I x] [(0, flag 41 hb)] 1 [some false, some true, none, none, none, none, none, none, none, none, none, none, none, none, some true, some false, some true]).map acc3 = some (I (atanB true true false true (t0V y x)), some (flag 41 (atanHB true y x (hb || satH y || satH x))), [(decide (satV y < 0), true), (decide (satV x < 0), false), (decide (fabsV (satV y) > fabsV (satV x)), true), (decide (t0V y x > 444758426), true), (mxV y x == 0, false)]) := by kernel_rfl
theorem atttff (y x : Int) (hb : Bool) : (runF Try.prog S35 Zl 2000 59 [A0, I y, I x] [(0, flag 41 hb)] 1 [some false, some true, none, none, none, none, none, none, none, none, none, none, none, none, some true, some false, some false]).map acc3 = some (I (atanB true true false false (t0V y x)), some (flag 41 (atanHB true y x (hb || satH y || satH x))), [(decide (satV y < 0), false), (decide (satV x < 0), false), (decide (fabsV (satV y) > fabsV (satV x)), true), (decide (t0V y x > 444758426), true), (mxV y x == 0, false)]) := by kernel_rfl
theorem attftt (y x : Int) (hb : Bool) : (runF Try.prog S35 Zl 2000 59 [A0, I y, I x] [(0, flag 41 hb)] 1 [some false, some true, none, none, none, none, none, none, none, none, none, none, none, none, some false, some true, some true]).map acc3 = some (I (atanB true false true true (t0V y x)), some (flag 41 (atanHB true y x (hb || satH y || satH x))), [(decide (satV y < 0), true), (decide (satV x < 0), true), (decide (fabsV (satV y) > fabsV (satV x)), false), (decide (t0V y x > 444758426), true), (mxV y x == 0, false)]) := by kernel_rfl
theorem attftf (y x : Int) (hb : Bool) : (runF Try.prog S35 Zl 2000 59 [A0, I y, I x] [(0, flag 41 hb)] 1 [some false, some true, none, none, none, none, none, none, none, none, none, none, none, none, some false, some true, some false]).map acc3 = some (I (atanB true false true false (t0V y x)), some (flag 41 (atanHB true y x (hb || satH y || satH x))), [(decide (satV y < 0), false), (decide (satV x < 0), true), (decide (fabsV (satV y) > fabsV (satV x)), false), (decide (t0V y x > 444758426), true), (mxV y x == 0, false)]) := by kernel_rfl
theorem attfft (y x : Int) (hb : Bool) : (runF Try.prog S35 Zl 2000 59 [A0, I y, I x] [(0, flag 41 hb)] 1 [some false, some true, none, none, none, none, none, none, none, none, none, none, none, none, some false, some false, some true]).map acc3 = some (I (atanB true false false true (t0V y x)), some (flag 41 (atanHB true y x (hb || satH y || satH x))), [(decide (satV y < 0), true), (decide (satV x < 0), false), (decide (fabsV (satV y) > fabsV (satV x)), false), (decide (t0V y x > 444758426), true), (mxV y x == 0, false)]) := by kernel_rfl
theorem attfff (y x : Int) (hb : Bool) : (runF Try.prog S35 Zl 2000 59 [A0, I y, I x] [(0, flag 41 hb)] 1 [some false, some true, none, none, none, none, none, none, none, none, none, none, none, none, some false, some false, some false]).map acc3 = some (I (atanB true false false false (t0V y x)), some (flag 41 (atanHB true y x (hb || satH y || satH x))), [(decide (satV y < 0), false), (decide (satV x < 0), false), (decide (fabsV (satV y) > fabsV (satV x)), false), (decide (t0V y x > 444758426), true), (mxV y x == 0, false)]) := by kernel_rfl
theorem atfttt (y x : Int) (hb : Bool) : (runF Try.prog S35 Zl 2000 59 [A0, I y, I x] [(0, flag 41 hb)] 1 [some false, some false, none, none, none, none, none, none, none, none, none, none, none, none, some true, some true, some true]).map acc3 = some (I (atanB false true true true (t0V y x)), some (flag 41 (atanHB false y x (hb || satH y || satH x))), [(decide (satV y < 0), true), (decide (satV x < 0), true), (decide (fabsV (satV y) > fabsV (satV x)), true), (decide (t0V y x > 444758426), false), (mxV y x == 0, false)]) := by kernel_rfl
theorem atfttf (y x : Int) (hb : Bool) : (runF Try.prog S35 Zl 2000 59 [A0, I y, I x] [(0, flag 41 hb)] 1 [some false, some false, none, none, none, none, none, none, none, none, none, none, none, none, some true, some true, some false]).map acc3 = some (I (atanB false true true false (t0V y x)), some (flag 41 (atanHB false y x (hb || satH y || satH x))), [(decide (satV y < 0), false), (decide (satV x < 0), true), (decide (fabsV (satV y) > fabsV (satV x)), true), (decide (t0V y x > 444758426), false), (mxV y x == 0, false)]) := by kernel_rfl
theorem atftft (y x : Int) (hb : Bool) : (runF Try.prog S35 Zl 2000 59 [A0, I y, I x] [(0, flag 41 hb)] 1 [some false, some false, none, none, none, none, none, none, none, none, none, none, none, none, some true, some false, some true]).map acc3 = some (I (atanB false true false true (t0V y x)), some (flag 41 (atanHB false y x (hb || satH y || satH x))), [(decide (satV y < 0), true), (decide (satV x < 0), false), (decide (fabsV (satV y) > fabsV (satV x)), true), (decide (t0V y x > 444758426), false), (mxV y x == 0, false)]) := by kernel_rfl
theorem atftff (y x : Int) (hb : Bool) : (runF Try.prog S35 Zl 2000 59 [A0, I y, I x] [(0, flag 41 hb)] 1 [some false, some false, none, none, none, none, none, none, none, none, none, none, none, none, some true, some false, some false]).map acc3 = some (I (atanB false true false false (t0V y x)), some (flag 41 (atanHB false y x (hb || satH y || satH x))), [(decide (satV y < 0), false), (decide (satV x < 0), false), (decide (fabsV (satV y) > fabsV (satV x)), true), (decide (t0V y x > 444758426), false), (mxV y x == 0, false)]) := by kernel_rfl
theorem atfftt (y x : Int) (hb : Bool) : (runF Try.prog S35 Zl 2000 59 [A0, I y, I x] [(0, flag 41 hb)] 1 [some false, some false, none, none, none, none, none, none, none, none, none, none, none, none, some false, some true, some true]).map acc3 = some (I (atanB false false true true (t0V y x)), some (flag 41 (atanHB false y x (hb || satH y || satH x))), [(decide (satV y < 0), true), (decide (satV x < 0), true), (decide (fabsV (satV y) > fabsV (satV x)), false), (decide (t0V y x > 444758426), false), (mxV y x == 0, false)]) := by kernel_rfl
theorem atfftf (y x : Int) (hb : Bool) : (runF Try.prog S35 Zl 2000 59 [A0, I y, I x] [(0, flag 41 hb)] 1 [some false, some false, none, none, none, none, none, none, none, none, none, none, none, none, some false, some true, some false]).map acc3 = some (I (atanB false false true false (t0V y x)), some (flag 41 (atanHB false y x (hb || satH y || satH x))), [(decide (satV y < 0), false), (decide (satV x < 0), true), (decide (fabsV (satV y) > fabsV (satV x)), false), (decide (t0V y x > 444758426), false), (mxV y x == 0, false)]) := by kernel_rfl
theorem atffft (y x : Int) (hb : Bool) : (runF Try.prog S35 Zl 2000 59 [A0, I y, I x] [(0, flag 41 hb)] 1 [some false, some false, none, none, none, none, none, none, none, none, none, none, none, none, some false, some false, some true]).map acc3 = some (I (atanB false false false true (t0V y x)), some (flag 41 (atanHB false y x (hb || satH y || satH x))), [(decide (satV y < 0), true), (decide (satV x < 0), false), (decide (fabsV (satV y) > fabsV (satV x)), false), (decide (t0V y x > 444758426), false), (mxV y x == 0, false)]) := by kernel_rfl
theorem atffff (y x : Int) (hb : Bool) : (runF Try.prog S35 Zl 2000 59 [A0, I y, I x] [(0, flag 41 hb)] 1 [some false, some false, none, none, none, none, none, none, none, none, none, none, none, none, some false, some false, some false]).map acc3 = some (I (atanB false false false false (t0V y x)), some (flag 41 (atanHB false y x (hb || satH y || satH x))), [(decide (satV y < 0), false), (decide (satV x < 0), false), (decide (fabsV (satV y) > fabsV (satV x)), false), (decide (t0V y x > 444758426), false), (mxV y x == 0, false)]) := by kernel_rfl

/-- The angle of a point. -/
def atanV (y x : Int) : Int := bif mxV y x == 0 then 0 else atanB (decide (t0V y x > 444758426)) (decide (fabsV (satV y) > fabsV (satV x))) (decide (satV x < 0)) (decide (satV y < 0)) (t0V y x)
def atanH (y x : Int) (h : Bool) : Bool := bif mxV y x == 0 then h || satH y || satH x else atanHB (decide (t0V y x > 444758426)) y x (h || satH y || satH x)
def atanS : List LV → Bool → Option (LV × Bool × List (Bool × Bool))
  | [.v (.one (.int .i64 y)), .v (.one (.int .i64 x))], hb => some (I (atanV y x), atanH y x hb, [])
  | _, _ => none
theorem sumAtan : SumOK Try.prog 59 (accSum 41 atanS) := by
  refine accSum_run (z := Zl) sound35 (own_of sound35 Try.func59 (by kernel_rfl)) fun args hb v h' cs hF hc => ?_
  unfold atanS at hF
  split at hF
  · rename_i y x
    cases hF
    refine ⟨rfl, ?_⟩
    unfold atanV atanH
    rcases bool_cases (mxV y x == 0) with h0 | h0
    · rw [cond_t h0, cond_t h0]
      exact ⟨2000, [some true], _, atZ y x hb, ae_cons h0 ae_nil⟩
    · rw [cond_f h0, cond_f h0]
      rcases bool_cases (decide (t0V y x > 444758426)) with h1 | h1
      · rcases bool_cases (decide (fabsV (satV y) > fabsV (satV x))) with h2 | h2
        · rcases bool_cases (decide (satV x < 0)) with h3 | h3
          · rcases bool_cases (decide (satV y < 0)) with h4 | h4
            · rw [h1, h2, h3, h4]
              exact ⟨2000, _, _, attttt y x hb, ae_cons h4 (ae_cons h3 (ae_cons h2 (ae_cons h1 (ae_cons h0 ae_nil))))⟩
            · rw [h1, h2, h3, h4]
              exact ⟨2000, _, _, attttf y x hb, ae_cons h4 (ae_cons h3 (ae_cons h2 (ae_cons h1 (ae_cons h0 ae_nil))))⟩
          · rcases bool_cases (decide (satV y < 0)) with h4 | h4
            · rw [h1, h2, h3, h4]
              exact ⟨2000, _, _, atttft y x hb, ae_cons h4 (ae_cons h3 (ae_cons h2 (ae_cons h1 (ae_cons h0 ae_nil))))⟩
            · rw [h1, h2, h3, h4]
              exact ⟨2000, _, _, atttff y x hb, ae_cons h4 (ae_cons h3 (ae_cons h2 (ae_cons h1 (ae_cons h0 ae_nil))))⟩
        · rcases bool_cases (decide (satV x < 0)) with h3 | h3
          · rcases bool_cases (decide (satV y < 0)) with h4 | h4
            · rw [h1, h2, h3, h4]
              exact ⟨2000, _, _, attftt y x hb, ae_cons h4 (ae_cons h3 (ae_cons h2 (ae_cons h1 (ae_cons h0 ae_nil))))⟩
            · rw [h1, h2, h3, h4]
              exact ⟨2000, _, _, attftf y x hb, ae_cons h4 (ae_cons h3 (ae_cons h2 (ae_cons h1 (ae_cons h0 ae_nil))))⟩
          · rcases bool_cases (decide (satV y < 0)) with h4 | h4
            · rw [h1, h2, h3, h4]
              exact ⟨2000, _, _, attfft y x hb, ae_cons h4 (ae_cons h3 (ae_cons h2 (ae_cons h1 (ae_cons h0 ae_nil))))⟩
            · rw [h1, h2, h3, h4]
              exact ⟨2000, _, _, attfff y x hb, ae_cons h4 (ae_cons h3 (ae_cons h2 (ae_cons h1 (ae_cons h0 ae_nil))))⟩
      · rcases bool_cases (decide (fabsV (satV y) > fabsV (satV x))) with h2 | h2
        · rcases bool_cases (decide (satV x < 0)) with h3 | h3
          · rcases bool_cases (decide (satV y < 0)) with h4 | h4
            · rw [h1, h2, h3, h4]
              exact ⟨2000, _, _, atfttt y x hb, ae_cons h4 (ae_cons h3 (ae_cons h2 (ae_cons h1 (ae_cons h0 ae_nil))))⟩
            · rw [h1, h2, h3, h4]
              exact ⟨2000, _, _, atfttf y x hb, ae_cons h4 (ae_cons h3 (ae_cons h2 (ae_cons h1 (ae_cons h0 ae_nil))))⟩
          · rcases bool_cases (decide (satV y < 0)) with h4 | h4
            · rw [h1, h2, h3, h4]
              exact ⟨2000, _, _, atftft y x hb, ae_cons h4 (ae_cons h3 (ae_cons h2 (ae_cons h1 (ae_cons h0 ae_nil))))⟩
            · rw [h1, h2, h3, h4]
              exact ⟨2000, _, _, atftff y x hb, ae_cons h4 (ae_cons h3 (ae_cons h2 (ae_cons h1 (ae_cons h0 ae_nil))))⟩
        · rcases bool_cases (decide (satV x < 0)) with h3 | h3
          · rcases bool_cases (decide (satV y < 0)) with h4 | h4
            · rw [h1, h2, h3, h4]
              exact ⟨2000, _, _, atfftt y x hb, ae_cons h4 (ae_cons h3 (ae_cons h2 (ae_cons h1 (ae_cons h0 ae_nil))))⟩
            · rw [h1, h2, h3, h4]
              exact ⟨2000, _, _, atfftf y x hb, ae_cons h4 (ae_cons h3 (ae_cons h2 (ae_cons h1 (ae_cons h0 ae_nil))))⟩
          · rcases bool_cases (decide (satV y < 0)) with h4 | h4
            · rw [h1, h2, h3, h4]
              exact ⟨2000, _, _, atffft y x hb, ae_cons h4 (ae_cons h3 (ae_cons h2 (ae_cons h1 (ae_cons h0 ae_nil))))⟩
            · rw [h1, h2, h3, h4]
              exact ⟨2000, _, _, atffff y x hb, ae_cons h4 (ae_cons h3 (ae_cons h2 (ae_cons h1 (ae_cons h0 ae_nil))))⟩
  · cases hF
noncomputable def S36 : FuncId → Option SumK := more S35 59 (accSum 41 atanS)
theorem sound36 : Sound Try.prog S36 := sound35.more sumAtan
end Go.Proofs.Ytdkmiliehlhmbaa

/- The law folder's awake, of chapter 4: its run. -/
namespace Go.Proofs.Ytdkmiliehlhmbaa
open Go.Lr
end Go.Proofs.Ytdkmiliehlhmbaa

/- What the laws of chapter 4 call: the awake, a number without its sign. -/
namespace Go.Proofs.Ytdkmiliehlhmbaa
open Go.Lr
set_option linter.unusedVariables false
end Go.Proofs.Ytdkmiliehlhmbaa

/- Sines, and the second answer's sines and angles: their runs, against what they compute. -/
namespace Go.Proofs.Ytdkmiliehlhmbaa
open Go.Lr
set_option linter.unusedVariables false
set_option linter.unusedSimpArgs false

def sL1 : List Int := [2959, -213044, 8947849, -178956971, 1073741824]
def sL2 : List Int := [-296, 26631, -1491308, 44739243, -536870912, 1073741824]
def mmV (s : Int) : Int := if (1073741824 : Int) < (if (-1073741824 : Int) > s then -1073741824 else s) then 1073741824 else (if (-1073741824 : Int) > s then -1073741824 else s)
/-- The angle, folded to the right. -/
def sinW (b1 b2 : Bool) (a : Int) : Int := bif b1 then wr IntKind.i64 (3373259426 - wrapV (satV a)) else bif b2 then wr IntKind.i64 (-3373259426 - wrapV (satV a)) else wrapV (satV a)
def sinX (w : Int) : Int := wr IntKind.i64 (1686629713 - fabsV w)
def sinS0 (w : Int) : Int := mulV w (serV (mulV w w 30) (-27) sL1) 30
def sinSH (w : Int) (h : Bool) : Bool := serHb (mulV w w 30) (h || mulH w w 30) (-27) sL1 || mulH w (serV (mulV w w 30) (-27) sL1) 30
def sinG0 (ng : Bool) (x : Int) : Int := bif ng then wr IntKind.i64 (0 - serV (mulV x x 30) 2 sL2) else serV (mulV x x 30) 2 sL2
def sinGH (x : Int) (h : Bool) : Bool := serHb (mulV x x 30) (h || mulH x x 30) 2 sL2
/-- Without its sign, as the second answer reckons it. -/
def sinU (ng : Bool) (w : Int) : Int := bif ng then wr IntKind.i64 (0 - w) else w
def clO (s : Int) : Int := clampV s (-1073741824) 1073741824
theorem sntfs (a : Int) (hb : Bool) : (runF Try.prog S36 Zl 2000 53 [A0, I a] [(0, flag 41 hb)] 1 [some true, some true, none, none, none, none, none, none, none]).map acc3 = some (I (mmV (sinS0 (sinW true false a))), some (flag 41 (sinSH (sinW true false a) (hb || satH a))), [(decide (fabsV (sinW true false a) ≤ 843314857), true), (decide (wrapV (satV a) > 1686629713), true)]) := by kernel_rfl
theorem sntfgt (a : Int) (hb : Bool) : (runF Try.prog S36 Zl 2000 53 [A0, I a] [(0, flag 41 hb)] 1 [some true, some false, none, none, none, none, none, none, none, some true]).map acc3 = some (I (mmV (sinG0 true (sinX (sinW true false a)))), some (flag 41 (sinGH (sinX (sinW true false a)) (hb || satH a))), [(decide ((sinW true false a) < 0), true), (decide (fabsV (sinW true false a) ≤ 843314857), false), (decide (wrapV (satV a) > 1686629713), true)]) := by kernel_rfl
theorem sntfgf (a : Int) (hb : Bool) : (runF Try.prog S36 Zl 2000 53 [A0, I a] [(0, flag 41 hb)] 1 [some true, some false, none, none, none, none, none, none, none, some false]).map acc3 = some (I (mmV (sinG0 false (sinX (sinW true false a)))), some (flag 41 (sinGH (sinX (sinW true false a)) (hb || satH a))), [(decide ((sinW true false a) < 0), false), (decide (fabsV (sinW true false a) ≤ 843314857), false), (decide (wrapV (satV a) > 1686629713), true)]) := by kernel_rfl
theorem rstftg (a : Int) (hb : Bool) (ty : TypeId) : (runF Try.prog S36 Zl 2000 31 [A0, I a] [(0, flag ty hb)] 1 [some true, some true, some true, none, none, none, none, none, none, none, some true]).map acc3 = some (I (clO (sinG0 true (wr IntKind.i64 (1686629713 - (sinU true (sinW true false a)))))), some (flag ty (sinGH (wr IntKind.i64 (1686629713 - (sinU true (sinW true false a)))) (hb || satH a))), [(decide ((sinW true false a) < 0), true), (decide ((sinU true (sinW true false a)) > 843314857), true), (decide ((sinW true false a) < 0), true), (decide (wrapV (satV a) > 1686629713), true)]) := by kernel_rfl
theorem rstfts (a : Int) (hb : Bool) (ty : TypeId) : (runF Try.prog S36 Zl 2000 31 [A0, I a] [(0, flag ty hb)] 1 [some true, some true, some false, none, none, none, none, none, none, none]).map acc3 = some (I (clO (sinS0 (sinW true false a))), some (flag ty (sinSH (sinW true false a) (hb || satH a))), [(decide ((sinU true (sinW true false a)) > 843314857), false), (decide ((sinW true false a) < 0), true), (decide (wrapV (satV a) > 1686629713), true)]) := by kernel_rfl
theorem rstffg (a : Int) (hb : Bool) (ty : TypeId) : (runF Try.prog S36 Zl 2000 31 [A0, I a] [(0, flag ty hb)] 1 [some true, some false, some true, none, none, none, none, none, none, none, some false]).map acc3 = some (I (clO (sinG0 false (wr IntKind.i64 (1686629713 - (sinU false (sinW true false a)))))), some (flag ty (sinGH (wr IntKind.i64 (1686629713 - (sinU false (sinW true false a)))) (hb || satH a))), [(decide ((sinW true false a) < 0), false), (decide ((sinU false (sinW true false a)) > 843314857), true), (decide ((sinW true false a) < 0), false), (decide (wrapV (satV a) > 1686629713), true)]) := by kernel_rfl
theorem rstffs (a : Int) (hb : Bool) (ty : TypeId) : (runF Try.prog S36 Zl 2000 31 [A0, I a] [(0, flag ty hb)] 1 [some true, some false, some false, none, none, none, none, none, none, none]).map acc3 = some (I (clO (sinS0 (sinW true false a))), some (flag ty (sinSH (sinW true false a) (hb || satH a))), [(decide ((sinU false (sinW true false a)) > 843314857), false), (decide ((sinW true false a) < 0), false), (decide (wrapV (satV a) > 1686629713), true)]) := by kernel_rfl
theorem snfts (a : Int) (hb : Bool) : (runF Try.prog S36 Zl 2000 53 [A0, I a] [(0, flag 41 hb)] 1 [some false, some true, some true, none, none, none, none, none, none, none]).map acc3 = some (I (mmV (sinS0 (sinW false true a))), some (flag 41 (sinSH (sinW false true a) (hb || satH a))), [(decide (fabsV (sinW false true a) ≤ 843314857), true), (decide (wrapV (satV a) < -1686629713), true), (decide (wrapV (satV a) > 1686629713), false)]) := by kernel_rfl
theorem snftgt (a : Int) (hb : Bool) : (runF Try.prog S36 Zl 2000 53 [A0, I a] [(0, flag 41 hb)] 1 [some false, some true, some false, none, none, none, none, none, none, none, some true]).map acc3 = some (I (mmV (sinG0 true (sinX (sinW false true a)))), some (flag 41 (sinGH (sinX (sinW false true a)) (hb || satH a))), [(decide ((sinW false true a) < 0), true), (decide (fabsV (sinW false true a) ≤ 843314857), false), (decide (wrapV (satV a) < -1686629713), true), (decide (wrapV (satV a) > 1686629713), false)]) := by kernel_rfl
theorem snftgf (a : Int) (hb : Bool) : (runF Try.prog S36 Zl 2000 53 [A0, I a] [(0, flag 41 hb)] 1 [some false, some true, some false, none, none, none, none, none, none, none, some false]).map acc3 = some (I (mmV (sinG0 false (sinX (sinW false true a)))), some (flag 41 (sinGH (sinX (sinW false true a)) (hb || satH a))), [(decide ((sinW false true a) < 0), false), (decide (fabsV (sinW false true a) ≤ 843314857), false), (decide (wrapV (satV a) < -1686629713), true), (decide (wrapV (satV a) > 1686629713), false)]) := by kernel_rfl
theorem rsfttg (a : Int) (hb : Bool) (ty : TypeId) : (runF Try.prog S36 Zl 2000 31 [A0, I a] [(0, flag ty hb)] 1 [some false, some true, some true, some true, none, none, none, none, none, none, none, some true]).map acc3 = some (I (clO (sinG0 true (wr IntKind.i64 (1686629713 - (sinU true (sinW false true a)))))), some (flag ty (sinGH (wr IntKind.i64 (1686629713 - (sinU true (sinW false true a)))) (hb || satH a))), [(decide ((sinW false true a) < 0), true), (decide ((sinU true (sinW false true a)) > 843314857), true), (decide ((sinW false true a) < 0), true), (decide (wrapV (satV a) < -1686629713), true), (decide (wrapV (satV a) > 1686629713), false)]) := by kernel_rfl
theorem rsftts (a : Int) (hb : Bool) (ty : TypeId) : (runF Try.prog S36 Zl 2000 31 [A0, I a] [(0, flag ty hb)] 1 [some false, some true, some true, some false, none, none, none, none, none, none, none]).map acc3 = some (I (clO (sinS0 (sinW false true a))), some (flag ty (sinSH (sinW false true a) (hb || satH a))), [(decide ((sinU true (sinW false true a)) > 843314857), false), (decide ((sinW false true a) < 0), true), (decide (wrapV (satV a) < -1686629713), true), (decide (wrapV (satV a) > 1686629713), false)]) := by kernel_rfl
theorem rsftfg (a : Int) (hb : Bool) (ty : TypeId) : (runF Try.prog S36 Zl 2000 31 [A0, I a] [(0, flag ty hb)] 1 [some false, some true, some false, some true, none, none, none, none, none, none, none, some false]).map acc3 = some (I (clO (sinG0 false (wr IntKind.i64 (1686629713 - (sinU false (sinW false true a)))))), some (flag ty (sinGH (wr IntKind.i64 (1686629713 - (sinU false (sinW false true a)))) (hb || satH a))), [(decide ((sinW false true a) < 0), false), (decide ((sinU false (sinW false true a)) > 843314857), true), (decide ((sinW false true a) < 0), false), (decide (wrapV (satV a) < -1686629713), true), (decide (wrapV (satV a) > 1686629713), false)]) := by kernel_rfl
theorem rsftfs (a : Int) (hb : Bool) (ty : TypeId) : (runF Try.prog S36 Zl 2000 31 [A0, I a] [(0, flag ty hb)] 1 [some false, some true, some false, some false, none, none, none, none, none, none, none]).map acc3 = some (I (clO (sinS0 (sinW false true a))), some (flag ty (sinSH (sinW false true a) (hb || satH a))), [(decide ((sinU false (sinW false true a)) > 843314857), false), (decide ((sinW false true a) < 0), false), (decide (wrapV (satV a) < -1686629713), true), (decide (wrapV (satV a) > 1686629713), false)]) := by kernel_rfl
theorem snffs (a : Int) (hb : Bool) : (runF Try.prog S36 Zl 2000 53 [A0, I a] [(0, flag 41 hb)] 1 [some false, some false, some true, none, none, none, none, none, none, none]).map acc3 = some (I (mmV (sinS0 (sinW false false a))), some (flag 41 (sinSH (sinW false false a) (hb || satH a))), [(decide (fabsV (sinW false false a) ≤ 843314857), true), (decide (wrapV (satV a) < -1686629713), false), (decide (wrapV (satV a) > 1686629713), false)]) := by kernel_rfl
theorem snffgt (a : Int) (hb : Bool) : (runF Try.prog S36 Zl 2000 53 [A0, I a] [(0, flag 41 hb)] 1 [some false, some false, some false, none, none, none, none, none, none, none, some true]).map acc3 = some (I (mmV (sinG0 true (sinX (sinW false false a)))), some (flag 41 (sinGH (sinX (sinW false false a)) (hb || satH a))), [(decide ((sinW false false a) < 0), true), (decide (fabsV (sinW false false a) ≤ 843314857), false), (decide (wrapV (satV a) < -1686629713), false), (decide (wrapV (satV a) > 1686629713), false)]) := by kernel_rfl
theorem snffgf (a : Int) (hb : Bool) : (runF Try.prog S36 Zl 2000 53 [A0, I a] [(0, flag 41 hb)] 1 [some false, some false, some false, none, none, none, none, none, none, none, some false]).map acc3 = some (I (mmV (sinG0 false (sinX (sinW false false a)))), some (flag 41 (sinGH (sinX (sinW false false a)) (hb || satH a))), [(decide ((sinW false false a) < 0), false), (decide (fabsV (sinW false false a) ≤ 843314857), false), (decide (wrapV (satV a) < -1686629713), false), (decide (wrapV (satV a) > 1686629713), false)]) := by kernel_rfl
theorem rsfftg (a : Int) (hb : Bool) (ty : TypeId) : (runF Try.prog S36 Zl 2000 31 [A0, I a] [(0, flag ty hb)] 1 [some false, some false, some true, some true, none, none, none, none, none, none, none, some true]).map acc3 = some (I (clO (sinG0 true (wr IntKind.i64 (1686629713 - (sinU true (sinW false false a)))))), some (flag ty (sinGH (wr IntKind.i64 (1686629713 - (sinU true (sinW false false a)))) (hb || satH a))), [(decide ((sinW false false a) < 0), true), (decide ((sinU true (sinW false false a)) > 843314857), true), (decide ((sinW false false a) < 0), true), (decide (wrapV (satV a) < -1686629713), false), (decide (wrapV (satV a) > 1686629713), false)]) := by kernel_rfl
theorem rsffts (a : Int) (hb : Bool) (ty : TypeId) : (runF Try.prog S36 Zl 2000 31 [A0, I a] [(0, flag ty hb)] 1 [some false, some false, some true, some false, none, none, none, none, none, none, none]).map acc3 = some (I (clO (sinS0 (sinW false false a))), some (flag ty (sinSH (sinW false false a) (hb || satH a))), [(decide ((sinU true (sinW false false a)) > 843314857), false), (decide ((sinW false false a) < 0), true), (decide (wrapV (satV a) < -1686629713), false), (decide (wrapV (satV a) > 1686629713), false)]) := by kernel_rfl
theorem rsfffg (a : Int) (hb : Bool) (ty : TypeId) : (runF Try.prog S36 Zl 2000 31 [A0, I a] [(0, flag ty hb)] 1 [some false, some false, some false, some true, none, none, none, none, none, none, none, some false]).map acc3 = some (I (clO (sinG0 false (wr IntKind.i64 (1686629713 - (sinU false (sinW false false a)))))), some (flag ty (sinGH (wr IntKind.i64 (1686629713 - (sinU false (sinW false false a)))) (hb || satH a))), [(decide ((sinW false false a) < 0), false), (decide ((sinU false (sinW false false a)) > 843314857), true), (decide ((sinW false false a) < 0), false), (decide (wrapV (satV a) < -1686629713), false), (decide (wrapV (satV a) > 1686629713), false)]) := by kernel_rfl
theorem rsfffs (a : Int) (hb : Bool) (ty : TypeId) : (runF Try.prog S36 Zl 2000 31 [A0, I a] [(0, flag ty hb)] 1 [some false, some false, some false, some false, none, none, none, none, none, none, none]).map acc3 = some (I (clO (sinS0 (sinW false false a))), some (flag ty (sinSH (sinW false false a) (hb || satH a))), [(decide ((sinU false (sinW false false a)) > 843314857), false), (decide ((sinW false false a) < 0), false), (decide (wrapV (satV a) < -1686629713), false), (decide (wrapV (satV a) > 1686629713), false)]) := by kernel_rfl

/-- The sine. -/
def sinF (w : Int) : Int := bif decide (fabsV w ≤ 843314857) then mmV (sinS0 w) else mmV (sinG0 (decide (w < 0)) (sinX w))
def sinFH (w : Int) (h : Bool) : Bool := bif decide (fabsV w ≤ 843314857) then sinSH w h else sinGH (sinX w) h
def sinV (a : Int) : Int := sinF (sinW (decide (wrapV (satV a) > 1686629713)) (decide (wrapV (satV a) < -1686629713)) a)
def sinH (a : Int) (h : Bool) : Bool := sinFH (sinW (decide (wrapV (satV a) > 1686629713)) (decide (wrapV (satV a) < -1686629713)) a) (h || satH a)
def sinS : List LV → Bool → Option (LV × Bool × List (Bool × Bool))
  | [.v (.one (.int .i64 a))], hb => some (I (sinV a), sinH a hb, [])
  | _, _ => none
theorem sumSin : SumOK Try.prog 53 (accSum 41 sinS) := by
  refine accSum_run (z := Zl) sound36 (own_of sound36 Try.func53 (by kernel_rfl)) fun args hb v h' cs hF hc => ?_
  unfold sinS at hF
  split at hF
  · rename_i a
    cases hF
    refine ⟨rfl, ?_⟩
    unfold sinV sinH
    have eT : ∀ b : Bool, sinW true b a = sinW true false a := fun b => rfl
    rcases bool_cases (decide (wrapV (satV a) > 1686629713)) with h1 | h1
    · rw [h1, eT]
      rcases bool_cases (decide (fabsV (sinW true false a) ≤ 843314857)) with h3 | h3
      · unfold sinF sinFH; rw [cond_t h3, cond_t h3]; exact ⟨2000, _, _, sntfs a hb, ae_cons h3 (ae_cons h1 ae_nil)⟩
      · unfold sinF sinFH; rw [cond_f h3, cond_f h3]
        rcases bool_cases (decide ((sinW true false a) < 0)) with h4 | h4
        · rw [h4]; exact ⟨2000, _, _, sntfgt a hb, ae_cons h4 (ae_cons h3 (ae_cons h1 ae_nil))⟩
        · rw [h4]; exact ⟨2000, _, _, sntfgf a hb, ae_cons h4 (ae_cons h3 (ae_cons h1 ae_nil))⟩
    · rw [h1]
      rcases bool_cases (decide (wrapV (satV a) < -1686629713)) with h2 | h2
      · rw [h2]
        rcases bool_cases (decide (fabsV (sinW false true a) ≤ 843314857)) with h3 | h3
        · unfold sinF sinFH; rw [cond_t h3, cond_t h3]; exact ⟨2000, _, _, snfts a hb, ae_cons h3 (ae_cons h2 (ae_cons h1 ae_nil))⟩
        · unfold sinF sinFH; rw [cond_f h3, cond_f h3]
          rcases bool_cases (decide ((sinW false true a) < 0)) with h4 | h4
          · rw [h4]; exact ⟨2000, _, _, snftgt a hb, ae_cons h4 (ae_cons h3 (ae_cons h2 (ae_cons h1 ae_nil)))⟩
          · rw [h4]; exact ⟨2000, _, _, snftgf a hb, ae_cons h4 (ae_cons h3 (ae_cons h2 (ae_cons h1 ae_nil)))⟩
      · rw [h2]
        rcases bool_cases (decide (fabsV (sinW false false a) ≤ 843314857)) with h3 | h3
        · unfold sinF sinFH; rw [cond_t h3, cond_t h3]; exact ⟨2000, _, _, snffs a hb, ae_cons h3 (ae_cons h2 (ae_cons h1 ae_nil))⟩
        · unfold sinF sinFH; rw [cond_f h3, cond_f h3]
          rcases bool_cases (decide ((sinW false false a) < 0)) with h4 | h4
          · rw [h4]; exact ⟨2000, _, _, snffgt a hb, ae_cons h4 (ae_cons h3 (ae_cons h2 (ae_cons h1 ae_nil)))⟩
          · rw [h4]; exact ⟨2000, _, _, snffgf a hb, ae_cons h4 (ae_cons h3 (ae_cons h2 (ae_cons h1 ae_nil)))⟩
  · cases hF

def rsinF (w : Int) : Int := bif decide (sinU (decide (w < 0)) w > 843314857) then clO (sinG0 (decide (w < 0)) (wr IntKind.i64 (1686629713 - sinU (decide (w < 0)) w))) else clO (sinS0 w)
def rsinFH (w : Int) (h : Bool) : Bool := bif decide (sinU (decide (w < 0)) w > 843314857) then sinGH (wr IntKind.i64 (1686629713 - sinU (decide (w < 0)) w)) h else sinSH w h
def rsinS : List LV → Bool → Option (LV × Bool × List (Bool × Bool))
  | [.v (.one (.int .i64 a))], hb => some (I (rsinF (sinW (decide (wrapV (satV a) > 1686629713)) (decide (wrapV (satV a) < -1686629713)) a)), rsinFH (sinW (decide (wrapV (satV a) > 1686629713)) (decide (wrapV (satV a) < -1686629713)) a) (hb || satH a), [])
  | _, _ => none
theorem sumRsin0 (ty : TypeId) : SumOK Try.prog 31 (accSum ty rsinS) := by
  refine accSum_run (z := Zl) sound36 (own_of sound36 Try.func31 (by kernel_rfl)) fun args hb v h' cs hF hc => ?_
  unfold rsinS at hF
  split at hF
  · rename_i a
    cases hF
    refine ⟨rfl, ?_⟩
    have eT : ∀ b : Bool, sinW true b a = sinW true false a := fun b => rfl
    unfold rsinF rsinFH
    rcases bool_cases (decide (wrapV (satV a) > 1686629713)) with h1 | h1
    · rw [h1, eT]
      rcases bool_cases (decide ((sinW true false a) < 0)) with h3 | h3
      · rw [h3]
        rcases bool_cases (decide (sinU true (sinW true false a) > 843314857)) with h4 | h4
        · rw [cond_t h4, cond_t h4]; exact ⟨2000, _, _, rstftg a hb ty, ae_cons h3 (ae_cons h4 (ae_cons h3 (ae_cons h1 ae_nil)))⟩
        · rw [cond_f h4, cond_f h4]; exact ⟨2000, _, _, rstfts a hb ty, ae_cons h4 (ae_cons h3 (ae_cons h1 ae_nil))⟩
      · rw [h3]
        rcases bool_cases (decide (sinU false (sinW true false a) > 843314857)) with h4 | h4
        · rw [cond_t h4, cond_t h4]; exact ⟨2000, _, _, rstffg a hb ty, ae_cons h3 (ae_cons h4 (ae_cons h3 (ae_cons h1 ae_nil)))⟩
        · rw [cond_f h4, cond_f h4]; exact ⟨2000, _, _, rstffs a hb ty, ae_cons h4 (ae_cons h3 (ae_cons h1 ae_nil))⟩
    · rw [h1]
      rcases bool_cases (decide (wrapV (satV a) < -1686629713)) with h2 | h2
      · rw [h2]
        rcases bool_cases (decide ((sinW false true a) < 0)) with h3 | h3
        · rw [h3]
          rcases bool_cases (decide (sinU true (sinW false true a) > 843314857)) with h4 | h4
          · rw [cond_t h4, cond_t h4]; exact ⟨2000, _, _, rsfttg a hb ty, ae_cons h3 (ae_cons h4 (ae_cons h3 (ae_cons h2 (ae_cons h1 ae_nil))))⟩
          · rw [cond_f h4, cond_f h4]; exact ⟨2000, _, _, rsftts a hb ty, ae_cons h4 (ae_cons h3 (ae_cons h2 (ae_cons h1 ae_nil)))⟩
        · rw [h3]
          rcases bool_cases (decide (sinU false (sinW false true a) > 843314857)) with h4 | h4
          · rw [cond_t h4, cond_t h4]; exact ⟨2000, _, _, rsftfg a hb ty, ae_cons h3 (ae_cons h4 (ae_cons h3 (ae_cons h2 (ae_cons h1 ae_nil))))⟩
          · rw [cond_f h4, cond_f h4]; exact ⟨2000, _, _, rsftfs a hb ty, ae_cons h4 (ae_cons h3 (ae_cons h2 (ae_cons h1 ae_nil)))⟩
      · rw [h2]
        rcases bool_cases (decide ((sinW false false a) < 0)) with h3 | h3
        · rw [h3]
          rcases bool_cases (decide (sinU true (sinW false false a) > 843314857)) with h4 | h4
          · rw [cond_t h4, cond_t h4]; exact ⟨2000, _, _, rsfftg a hb ty, ae_cons h3 (ae_cons h4 (ae_cons h3 (ae_cons h2 (ae_cons h1 ae_nil))))⟩
          · rw [cond_f h4, cond_f h4]; exact ⟨2000, _, _, rsffts a hb ty, ae_cons h4 (ae_cons h3 (ae_cons h2 (ae_cons h1 ae_nil)))⟩
        · rw [h3]
          rcases bool_cases (decide (sinU false (sinW false false a) > 843314857)) with h4 | h4
          · rw [cond_t h4, cond_t h4]; exact ⟨2000, _, _, rsfffg a hb ty, ae_cons h3 (ae_cons h4 (ae_cons h3 (ae_cons h2 (ae_cons h1 ae_nil))))⟩
          · rw [cond_f h4, cond_f h4]; exact ⟨2000, _, _, rsfffs a hb ty, ae_cons h4 (ae_cons h3 (ae_cons h2 (ae_cons h1 ae_nil)))⟩
  · cases hF
theorem clO_mm (s : Int) : clO s = mmV s := by
  unfold clO clampV mmV; (repeat' split) <;> omega
theorem sinU_eq {w : Int} (h0 : -6746518852 ≤ w) (h1 : w ≤ 6746518852) : sinU (decide (w < 0)) w = fabsV w := by
  unfold sinU
  by_cases h : w < 0
  · rw [decide_eq_true h, cond_true, wr_i, w64_in (by omega) (by omega)]
    unfold fabsV; (repeat' split) <;> omega
  · rw [decide_eq_false h, cond_false]
    unfold fabsV; (repeat' split) <;> omega
theorem sinW_bd (b1 b2 : Bool) (a : Int) : -6746518852 ≤ sinW b1 b2 a ∧ sinW b1 b2 a ≤ 6746518852 := by
  obtain ⟨h0, h1, -⟩ := wrap_spec (satV a)
  unfold sinW
  generalize wrapV (satV a) = t at *
  have e1 : wr IntKind.i64 (3373259426 - t) = 3373259426 - t := w64_in (by omega) (by omega)
  have e2 : wr IntKind.i64 (-3373259426 - t) = -3373259426 - t := w64_in (by omega) (by omega)
  rw [e1, e2]
  cases b1 <;> cases b2 <;> simp only [cond_true, cond_false] <;> omega
theorem rsin_eq {w : Int} (h0 : -6746518852 ≤ w) (h1 : w ≤ 6746518852) (h : Bool) : rsinF w = sinF w ∧ rsinFH w h = sinFH w h := by
  unfold rsinF rsinFH sinF sinFH sinX
  rw [sinU_eq h0 h1, clO_mm, clO_mm]
  by_cases hb : fabsV w ≤ 843314857
  · rw [decide_eq_true hb, decide_eq_false (show ¬ fabsV w > 843314857 by omega)]; exact ⟨rfl, rfl⟩
  · rw [decide_eq_false hb, decide_eq_true (show fabsV w > 843314857 by omega)]; exact ⟨rfl, rfl⟩
theorem sumRsin (ty : TypeId) : SumOK Try.prog 31 (accSum ty sinS) := by
  refine (sumRsin0 ty).acc_re fun args hb v h' cs hF hc => ?_
  unfold sinS at hF
  split at hF
  · rename_i a
    cases hF
    obtain ⟨b0, b1⟩ := sinW_bd (decide (wrapV (satV a) > 1686629713)) (decide (wrapV (satV a) < -1686629713)) a
    obtain ⟨e1, e2⟩ := rsin_eq b0 b1 (hb || satH a)
    refine ⟨[], ?_, ae_nil⟩
    show some (I (rsinF _), rsinFH _ (hb || satH a), []) = _
    rw [e1, e2]; rfl
  · cases hF

def atanHG (big : Bool) (v u : Int) (h : Bool) : Bool :=
  serHb (mulV (ttV big (divPV v u 30)) (ttV big (divPV v u 30)) 30) ((bif big then h || divPH v u 30 || divPH (wr IntKind.i64 (divPV v u 30 - 1073741824)) (wr IntKind.i64 (divPV v u 30 + 1073741824)) 30 else h || divPH v u 30) || mulH (ttV big (divPV v u 30)) (ttV big (divPV v u 30)) 30) (-46684427) atL || mulH (ttV big (divPV v u 30)) (serV (mulV (ttV big (divPV v u 30)) (ttV big (divPV v u 30)) 30) (-46684427) atL) 30
theorem razt (y x : Int) (hb : Bool) (ty : TypeId) : (runF Try.prog S36 Zl 2000 60 [A0, I y, I x] [(0, flag ty hb)] 1 [some true, some true]).map acc3 = some (I 0, some (flag ty (hb || satH y || satH x)), [((fabsV (satV y)) == 0, true), (decide ((fabsV (satV y)) > (fabsV (satV x))), true)]) := by kernel_rfl
theorem ratttt (y x : Int) (hb : Bool) (ty : TypeId) : (runF Try.prog S36 Zl 2000 60 [A0, I y, I x] [(0, flag ty hb)] 1 [some true, some false, some true, none, none, none, none, none, none, none, none, none, none, none, none, some true, some true, some true]).map acc3 = some (I (atanB true true true true (divPV (fabsV (satV x)) (fabsV (satV y)) 30)), some (flag ty (atanHG true (fabsV (satV x)) (fabsV (satV y)) (hb || satH y || satH x))), [(decide (satV y < 0), true), (decide (satV x < 0), true), (decide ((fabsV (satV y)) > (fabsV (satV x))), true), (decide (divPV (fabsV (satV x)) (fabsV (satV y)) 30 > 444758426), true), ((fabsV (satV y)) == 0, false), (decide ((fabsV (satV y)) > (fabsV (satV x))), true)]) := by kernel_rfl
theorem ratttf (y x : Int) (hb : Bool) (ty : TypeId) : (runF Try.prog S36 Zl 2000 60 [A0, I y, I x] [(0, flag ty hb)] 1 [some true, some false, some true, none, none, none, none, none, none, none, none, none, none, none, none, some true, some true, some false]).map acc3 = some (I (atanB true true true false (divPV (fabsV (satV x)) (fabsV (satV y)) 30)), some (flag ty (atanHG true (fabsV (satV x)) (fabsV (satV y)) (hb || satH y || satH x))), [(decide (satV y < 0), false), (decide (satV x < 0), true), (decide ((fabsV (satV y)) > (fabsV (satV x))), true), (decide (divPV (fabsV (satV x)) (fabsV (satV y)) 30 > 444758426), true), ((fabsV (satV y)) == 0, false), (decide ((fabsV (satV y)) > (fabsV (satV x))), true)]) := by kernel_rfl
theorem rattft (y x : Int) (hb : Bool) (ty : TypeId) : (runF Try.prog S36 Zl 2000 60 [A0, I y, I x] [(0, flag ty hb)] 1 [some true, some false, some true, none, none, none, none, none, none, none, none, none, none, none, none, some true, some false, some true]).map acc3 = some (I (atanB true true false true (divPV (fabsV (satV x)) (fabsV (satV y)) 30)), some (flag ty (atanHG true (fabsV (satV x)) (fabsV (satV y)) (hb || satH y || satH x))), [(decide (satV y < 0), true), (decide (satV x < 0), false), (decide ((fabsV (satV y)) > (fabsV (satV x))), true), (decide (divPV (fabsV (satV x)) (fabsV (satV y)) 30 > 444758426), true), ((fabsV (satV y)) == 0, false), (decide ((fabsV (satV y)) > (fabsV (satV x))), true)]) := by kernel_rfl
theorem rattff (y x : Int) (hb : Bool) (ty : TypeId) : (runF Try.prog S36 Zl 2000 60 [A0, I y, I x] [(0, flag ty hb)] 1 [some true, some false, some true, none, none, none, none, none, none, none, none, none, none, none, none, some true, some false, some false]).map acc3 = some (I (atanB true true false false (divPV (fabsV (satV x)) (fabsV (satV y)) 30)), some (flag ty (atanHG true (fabsV (satV x)) (fabsV (satV y)) (hb || satH y || satH x))), [(decide (satV y < 0), false), (decide (satV x < 0), false), (decide ((fabsV (satV y)) > (fabsV (satV x))), true), (decide (divPV (fabsV (satV x)) (fabsV (satV y)) 30 > 444758426), true), ((fabsV (satV y)) == 0, false), (decide ((fabsV (satV y)) > (fabsV (satV x))), true)]) := by kernel_rfl
theorem ratftt (y x : Int) (hb : Bool) (ty : TypeId) : (runF Try.prog S36 Zl 2000 60 [A0, I y, I x] [(0, flag ty hb)] 1 [some true, some false, some false, none, none, none, none, none, none, none, none, none, none, none, none, some true, some true, some true]).map acc3 = some (I (atanB false true true true (divPV (fabsV (satV x)) (fabsV (satV y)) 30)), some (flag ty (atanHG false (fabsV (satV x)) (fabsV (satV y)) (hb || satH y || satH x))), [(decide (satV y < 0), true), (decide (satV x < 0), true), (decide ((fabsV (satV y)) > (fabsV (satV x))), true), (decide (divPV (fabsV (satV x)) (fabsV (satV y)) 30 > 444758426), false), ((fabsV (satV y)) == 0, false), (decide ((fabsV (satV y)) > (fabsV (satV x))), true)]) := by kernel_rfl
theorem ratftf (y x : Int) (hb : Bool) (ty : TypeId) : (runF Try.prog S36 Zl 2000 60 [A0, I y, I x] [(0, flag ty hb)] 1 [some true, some false, some false, none, none, none, none, none, none, none, none, none, none, none, none, some true, some true, some false]).map acc3 = some (I (atanB false true true false (divPV (fabsV (satV x)) (fabsV (satV y)) 30)), some (flag ty (atanHG false (fabsV (satV x)) (fabsV (satV y)) (hb || satH y || satH x))), [(decide (satV y < 0), false), (decide (satV x < 0), true), (decide ((fabsV (satV y)) > (fabsV (satV x))), true), (decide (divPV (fabsV (satV x)) (fabsV (satV y)) 30 > 444758426), false), ((fabsV (satV y)) == 0, false), (decide ((fabsV (satV y)) > (fabsV (satV x))), true)]) := by kernel_rfl
theorem ratfft (y x : Int) (hb : Bool) (ty : TypeId) : (runF Try.prog S36 Zl 2000 60 [A0, I y, I x] [(0, flag ty hb)] 1 [some true, some false, some false, none, none, none, none, none, none, none, none, none, none, none, none, some true, some false, some true]).map acc3 = some (I (atanB false true false true (divPV (fabsV (satV x)) (fabsV (satV y)) 30)), some (flag ty (atanHG false (fabsV (satV x)) (fabsV (satV y)) (hb || satH y || satH x))), [(decide (satV y < 0), true), (decide (satV x < 0), false), (decide ((fabsV (satV y)) > (fabsV (satV x))), true), (decide (divPV (fabsV (satV x)) (fabsV (satV y)) 30 > 444758426), false), ((fabsV (satV y)) == 0, false), (decide ((fabsV (satV y)) > (fabsV (satV x))), true)]) := by kernel_rfl
theorem ratfff (y x : Int) (hb : Bool) (ty : TypeId) : (runF Try.prog S36 Zl 2000 60 [A0, I y, I x] [(0, flag ty hb)] 1 [some true, some false, some false, none, none, none, none, none, none, none, none, none, none, none, none, some true, some false, some false]).map acc3 = some (I (atanB false true false false (divPV (fabsV (satV x)) (fabsV (satV y)) 30)), some (flag ty (atanHG false (fabsV (satV x)) (fabsV (satV y)) (hb || satH y || satH x))), [(decide (satV y < 0), false), (decide (satV x < 0), false), (decide ((fabsV (satV y)) > (fabsV (satV x))), true), (decide (divPV (fabsV (satV x)) (fabsV (satV y)) 30 > 444758426), false), ((fabsV (satV y)) == 0, false), (decide ((fabsV (satV y)) > (fabsV (satV x))), true)]) := by kernel_rfl
theorem razf (y x : Int) (hb : Bool) (ty : TypeId) : (runF Try.prog S36 Zl 2000 60 [A0, I y, I x] [(0, flag ty hb)] 1 [some false, some true]).map acc3 = some (I 0, some (flag ty (hb || satH y || satH x)), [((fabsV (satV x)) == 0, true), (decide ((fabsV (satV y)) > (fabsV (satV x))), false)]) := by kernel_rfl
theorem rafttt (y x : Int) (hb : Bool) (ty : TypeId) : (runF Try.prog S36 Zl 2000 60 [A0, I y, I x] [(0, flag ty hb)] 1 [some false, some false, some true, none, none, none, none, none, none, none, none, none, none, none, none, some false, some true, some true]).map acc3 = some (I (atanB true false true true (divPV (fabsV (satV y)) (fabsV (satV x)) 30)), some (flag ty (atanHG true (fabsV (satV y)) (fabsV (satV x)) (hb || satH y || satH x))), [(decide (satV y < 0), true), (decide (satV x < 0), true), (decide ((fabsV (satV y)) > (fabsV (satV x))), false), (decide (divPV (fabsV (satV y)) (fabsV (satV x)) 30 > 444758426), true), ((fabsV (satV x)) == 0, false), (decide ((fabsV (satV y)) > (fabsV (satV x))), false)]) := by kernel_rfl
theorem rafttf (y x : Int) (hb : Bool) (ty : TypeId) : (runF Try.prog S36 Zl 2000 60 [A0, I y, I x] [(0, flag ty hb)] 1 [some false, some false, some true, none, none, none, none, none, none, none, none, none, none, none, none, some false, some true, some false]).map acc3 = some (I (atanB true false true false (divPV (fabsV (satV y)) (fabsV (satV x)) 30)), some (flag ty (atanHG true (fabsV (satV y)) (fabsV (satV x)) (hb || satH y || satH x))), [(decide (satV y < 0), false), (decide (satV x < 0), true), (decide ((fabsV (satV y)) > (fabsV (satV x))), false), (decide (divPV (fabsV (satV y)) (fabsV (satV x)) 30 > 444758426), true), ((fabsV (satV x)) == 0, false), (decide ((fabsV (satV y)) > (fabsV (satV x))), false)]) := by kernel_rfl
theorem raftft (y x : Int) (hb : Bool) (ty : TypeId) : (runF Try.prog S36 Zl 2000 60 [A0, I y, I x] [(0, flag ty hb)] 1 [some false, some false, some true, none, none, none, none, none, none, none, none, none, none, none, none, some false, some false, some true]).map acc3 = some (I (atanB true false false true (divPV (fabsV (satV y)) (fabsV (satV x)) 30)), some (flag ty (atanHG true (fabsV (satV y)) (fabsV (satV x)) (hb || satH y || satH x))), [(decide (satV y < 0), true), (decide (satV x < 0), false), (decide ((fabsV (satV y)) > (fabsV (satV x))), false), (decide (divPV (fabsV (satV y)) (fabsV (satV x)) 30 > 444758426), true), ((fabsV (satV x)) == 0, false), (decide ((fabsV (satV y)) > (fabsV (satV x))), false)]) := by kernel_rfl
theorem raftff (y x : Int) (hb : Bool) (ty : TypeId) : (runF Try.prog S36 Zl 2000 60 [A0, I y, I x] [(0, flag ty hb)] 1 [some false, some false, some true, none, none, none, none, none, none, none, none, none, none, none, none, some false, some false, some false]).map acc3 = some (I (atanB true false false false (divPV (fabsV (satV y)) (fabsV (satV x)) 30)), some (flag ty (atanHG true (fabsV (satV y)) (fabsV (satV x)) (hb || satH y || satH x))), [(decide (satV y < 0), false), (decide (satV x < 0), false), (decide ((fabsV (satV y)) > (fabsV (satV x))), false), (decide (divPV (fabsV (satV y)) (fabsV (satV x)) 30 > 444758426), true), ((fabsV (satV x)) == 0, false), (decide ((fabsV (satV y)) > (fabsV (satV x))), false)]) := by kernel_rfl
theorem rafftt (y x : Int) (hb : Bool) (ty : TypeId) : (runF Try.prog S36 Zl 2000 60 [A0, I y, I x] [(0, flag ty hb)] 1 [some false, some false, some false, none, none, none, none, none, none, none, none, none, none, none, none, some false, some true, some true]).map acc3 = some (I (atanB false false true true (divPV (fabsV (satV y)) (fabsV (satV x)) 30)), some (flag ty (atanHG false (fabsV (satV y)) (fabsV (satV x)) (hb || satH y || satH x))), [(decide (satV y < 0), true), (decide (satV x < 0), true), (decide ((fabsV (satV y)) > (fabsV (satV x))), false), (decide (divPV (fabsV (satV y)) (fabsV (satV x)) 30 > 444758426), false), ((fabsV (satV x)) == 0, false), (decide ((fabsV (satV y)) > (fabsV (satV x))), false)]) := by kernel_rfl
theorem rafftf (y x : Int) (hb : Bool) (ty : TypeId) : (runF Try.prog S36 Zl 2000 60 [A0, I y, I x] [(0, flag ty hb)] 1 [some false, some false, some false, none, none, none, none, none, none, none, none, none, none, none, none, some false, some true, some false]).map acc3 = some (I (atanB false false true false (divPV (fabsV (satV y)) (fabsV (satV x)) 30)), some (flag ty (atanHG false (fabsV (satV y)) (fabsV (satV x)) (hb || satH y || satH x))), [(decide (satV y < 0), false), (decide (satV x < 0), true), (decide ((fabsV (satV y)) > (fabsV (satV x))), false), (decide (divPV (fabsV (satV y)) (fabsV (satV x)) 30 > 444758426), false), ((fabsV (satV x)) == 0, false), (decide ((fabsV (satV y)) > (fabsV (satV x))), false)]) := by kernel_rfl
theorem raffft (y x : Int) (hb : Bool) (ty : TypeId) : (runF Try.prog S36 Zl 2000 60 [A0, I y, I x] [(0, flag ty hb)] 1 [some false, some false, some false, none, none, none, none, none, none, none, none, none, none, none, none, some false, some false, some true]).map acc3 = some (I (atanB false false false true (divPV (fabsV (satV y)) (fabsV (satV x)) 30)), some (flag ty (atanHG false (fabsV (satV y)) (fabsV (satV x)) (hb || satH y || satH x))), [(decide (satV y < 0), true), (decide (satV x < 0), false), (decide ((fabsV (satV y)) > (fabsV (satV x))), false), (decide (divPV (fabsV (satV y)) (fabsV (satV x)) 30 > 444758426), false), ((fabsV (satV x)) == 0, false), (decide ((fabsV (satV y)) > (fabsV (satV x))), false)]) := by kernel_rfl
theorem raffff (y x : Int) (hb : Bool) (ty : TypeId) : (runF Try.prog S36 Zl 2000 60 [A0, I y, I x] [(0, flag ty hb)] 1 [some false, some false, some false, none, none, none, none, none, none, none, none, none, none, none, none, some false, some false, some false]).map acc3 = some (I (atanB false false false false (divPV (fabsV (satV y)) (fabsV (satV x)) 30)), some (flag ty (atanHG false (fabsV (satV y)) (fabsV (satV x)) (hb || satH y || satH x))), [(decide (satV y < 0), false), (decide (satV x < 0), false), (decide ((fabsV (satV y)) > (fabsV (satV x))), false), (decide (divPV (fabsV (satV y)) (fabsV (satV x)) 30 > 444758426), false), ((fabsV (satV x)) == 0, false), (decide ((fabsV (satV y)) > (fabsV (satV x))), false)]) := by kernel_rfl

def ratV (v u y x : Int) (s : Bool) : Int := bif u == 0 then 0 else atanB (decide (divPV v u 30 > 444758426)) s (decide (satV x < 0)) (decide (satV y < 0)) (divPV v u 30)
def ratH (v u : Int) (h : Bool) : Bool := bif u == 0 then h else atanHG (decide (divPV v u 30 > 444758426)) v u h
def ratanS : List LV → Bool → Option (LV × Bool × List (Bool × Bool))
  | [.v (.one (.int .i64 y)), .v (.one (.int .i64 x))], hb => bif decide (fabsV (satV y) > fabsV (satV x)) then some (I (ratV (fabsV (satV x)) (fabsV (satV y)) y x true), ratH (fabsV (satV x)) (fabsV (satV y)) (hb || satH y || satH x), []) else some (I (ratV (fabsV (satV y)) (fabsV (satV x)) y x false), ratH (fabsV (satV y)) (fabsV (satV x)) (hb || satH y || satH x), [])
  | _, _ => none
theorem sumRatan0 (ty : TypeId) : SumOK Try.prog 60 (accSum ty ratanS) := by
  refine accSum_run (z := Zl) sound36 (own_of sound36 Try.func60 (by kernel_rfl)) fun args hb v h' cs hF hc => ?_
  unfold ratanS at hF
  split at hF
  · rename_i y x
    rcases bool_cases (decide (fabsV (satV y) > fabsV (satV x))) with h0 | h0
    · rw [cond_t h0] at hF
      cases hF
      refine ⟨rfl, ?_⟩
      unfold ratV ratH
      rcases bool_cases ((fabsV (satV y)) == 0) with h1 | h1
      · rw [cond_t h1, cond_t h1]; exact ⟨2000, _, _, razt y x hb ty, ae_cons h1 (ae_cons h0 ae_nil)⟩
      · rw [cond_f h1, cond_f h1]
        rcases bool_cases (decide (divPV (fabsV (satV x)) (fabsV (satV y)) 30 > 444758426)) with h2 | h2 <;> rcases bool_cases (decide (satV x < 0)) with h3 | h3 <;> rcases bool_cases (decide (satV y < 0)) with h4 | h4 <;> rw [h2, h3, h4]
        · exact ⟨2000, _, _, ratttt y x hb ty, ae_cons h4 (ae_cons h3 (ae_cons h0 (ae_cons h2 (ae_cons h1 (ae_cons h0 ae_nil)))))⟩
        · exact ⟨2000, _, _, ratttf y x hb ty, ae_cons h4 (ae_cons h3 (ae_cons h0 (ae_cons h2 (ae_cons h1 (ae_cons h0 ae_nil)))))⟩
        · exact ⟨2000, _, _, rattft y x hb ty, ae_cons h4 (ae_cons h3 (ae_cons h0 (ae_cons h2 (ae_cons h1 (ae_cons h0 ae_nil)))))⟩
        · exact ⟨2000, _, _, rattff y x hb ty, ae_cons h4 (ae_cons h3 (ae_cons h0 (ae_cons h2 (ae_cons h1 (ae_cons h0 ae_nil)))))⟩
        · exact ⟨2000, _, _, ratftt y x hb ty, ae_cons h4 (ae_cons h3 (ae_cons h0 (ae_cons h2 (ae_cons h1 (ae_cons h0 ae_nil)))))⟩
        · exact ⟨2000, _, _, ratftf y x hb ty, ae_cons h4 (ae_cons h3 (ae_cons h0 (ae_cons h2 (ae_cons h1 (ae_cons h0 ae_nil)))))⟩
        · exact ⟨2000, _, _, ratfft y x hb ty, ae_cons h4 (ae_cons h3 (ae_cons h0 (ae_cons h2 (ae_cons h1 (ae_cons h0 ae_nil)))))⟩
        · exact ⟨2000, _, _, ratfff y x hb ty, ae_cons h4 (ae_cons h3 (ae_cons h0 (ae_cons h2 (ae_cons h1 (ae_cons h0 ae_nil)))))⟩
    · rw [cond_f h0] at hF
      cases hF
      refine ⟨rfl, ?_⟩
      unfold ratV ratH
      rcases bool_cases ((fabsV (satV x)) == 0) with h1 | h1
      · rw [cond_t h1, cond_t h1]; exact ⟨2000, _, _, razf y x hb ty, ae_cons h1 (ae_cons h0 ae_nil)⟩
      · rw [cond_f h1, cond_f h1]
        rcases bool_cases (decide (divPV (fabsV (satV y)) (fabsV (satV x)) 30 > 444758426)) with h2 | h2 <;> rcases bool_cases (decide (satV x < 0)) with h3 | h3 <;> rcases bool_cases (decide (satV y < 0)) with h4 | h4 <;> rw [h2, h3, h4]
        · exact ⟨2000, _, _, rafttt y x hb ty, ae_cons h4 (ae_cons h3 (ae_cons h0 (ae_cons h2 (ae_cons h1 (ae_cons h0 ae_nil)))))⟩
        · exact ⟨2000, _, _, rafttf y x hb ty, ae_cons h4 (ae_cons h3 (ae_cons h0 (ae_cons h2 (ae_cons h1 (ae_cons h0 ae_nil)))))⟩
        · exact ⟨2000, _, _, raftft y x hb ty, ae_cons h4 (ae_cons h3 (ae_cons h0 (ae_cons h2 (ae_cons h1 (ae_cons h0 ae_nil)))))⟩
        · exact ⟨2000, _, _, raftff y x hb ty, ae_cons h4 (ae_cons h3 (ae_cons h0 (ae_cons h2 (ae_cons h1 (ae_cons h0 ae_nil)))))⟩
        · exact ⟨2000, _, _, rafftt y x hb ty, ae_cons h4 (ae_cons h3 (ae_cons h0 (ae_cons h2 (ae_cons h1 (ae_cons h0 ae_nil)))))⟩
        · exact ⟨2000, _, _, rafftf y x hb ty, ae_cons h4 (ae_cons h3 (ae_cons h0 (ae_cons h2 (ae_cons h1 (ae_cons h0 ae_nil)))))⟩
        · exact ⟨2000, _, _, raffft y x hb ty, ae_cons h4 (ae_cons h3 (ae_cons h0 (ae_cons h2 (ae_cons h1 (ae_cons h0 ae_nil)))))⟩
        · exact ⟨2000, _, _, raffff y x hb ty, ae_cons h4 (ae_cons h3 (ae_cons h0 (ae_cons h2 (ae_cons h1 (ae_cons h0 ae_nil)))))⟩
  · cases hF
theorem sumRatan (ty : TypeId) : SumOK Try.prog 60 (accSum ty atanS) := by
  refine (sumRatan0 ty).acc_re fun args hb v h' cs hF hc => ?_
  unfold atanS at hF
  split at hF
  · rename_i y x
    cases hF
    refine ⟨[], ?_, ae_nil⟩
    unfold ratanS
    show (bif decide (fabsV (satV y) > fabsV (satV x)) then _ else _) = _
    have eH : ∀ b h, atanHB b y x h = atanHG b (mnV y x) (mxV y x) h := fun b h => rfl
    have eT : t0V y x = divPV (mnV y x) (mxV y x) 30 := rfl
    unfold atanV atanH ratV ratH
    rw [eH, eT]
    by_cases h : fabsV (satV y) > fabsV (satV x)
    · have e1 : mnV y x = fabsV (satV x) := by unfold mnV; rw [if_pos h]
      have e2 : mxV y x = fabsV (satV y) := by unfold mxV; rw [if_neg (by omega)]
      rw [cond_t (decide_eq_true h), e1, e2, decide_eq_true h]
    · have e1 : mnV y x = fabsV (satV y) := by unfold mnV; rw [if_neg (by omega)]
      have e2 : mxV y x = fabsV (satV x) := by unfold mxV; split <;> omega
      rw [cond_f (decide_eq_false h), e1, e2, decide_eq_false h]
  · cases hF
noncomputable def S38 : FuncId → Option SumK := more (more (more S36 53 (accSum 41 sinS)) 31 (accAny sinS)) 60 (accAny atanS)
theorem sound38 : Sound Try.prog S38 := ((sound36.more sumSin).more (accAny_ok sumRsin)).more (accAny_ok sumRatan)

/-- The cosine; the angle of a sine. -/
def cosV (a : Int) : Int := sinV (wr IntKind.i64 (1686629713 + wrapV a))
def cosH (a : Int) (h : Bool) : Bool := sinH (wr IntKind.i64 (1686629713 + wrapV a)) h
def cosS : List LV → Bool → Option (LV × Bool × List (Bool × Bool))
  | [.v (.one (.int .i64 a))], hb => some (I (cosV a), cosH a hb, [])
  | _, _ => none
theorem runCos (a : Int) (hb : Bool) (ty : TypeId) (ht : ty = 41) : (runF Try.prog S38 Zl 2000 55 [A0, I a] [(0, flag ty hb)] 1 []).map acc3 = some (I (cosV a), some (flag ty (cosH a hb)), []) := by subst ht; kernel_rfl
theorem sumCos : SumOK Try.prog 55 (accSum 41 cosS) := by
  refine accSum_run (z := Zl) sound38 (own_of sound38 Try.func55 (by kernel_rfl)) fun args hb v h' cs hF hc => ?_
  unfold cosS at hF
  split at hF
  · rename_i a
    cases hF
    exact ⟨rfl, 2000, _, _, runCos a hb _ rfl, ae_nil⟩
  · cases hF
theorem runRcos (a : Int) (hb : Bool) (ty : TypeId) : (runF Try.prog S38 Zl 2000 30 [A0, I a] [(0, flag ty hb)] 1 []).map acc3 = some (I (cosV a), some (flag ty (cosH a hb)), []) := by kernel_rfl
theorem sumRcos (ty : TypeId) : SumOK Try.prog 30 (accSum ty cosS) := by
  refine accSum_run (z := Zl) sound38 (own_of sound38 Try.func30 (by kernel_rfl)) fun args hb v h' cs hF hc => ?_
  unfold cosS at hF
  split at hF
  · rename_i a
    cases hF
    exact ⟨rfl, 2000, _, _, runRcos a hb _, ae_nil⟩
  · cases hF
noncomputable def S39 : FuncId → Option SumK := more (more S38 55 (accSum 41 cosS)) 30 (accAny cosS)
theorem sound39 : Sound Try.prog S39 := (sound38.more sumCos).more (accAny_ok sumRcos)
end Go.Proofs.Ytdkmiliehlhmbaa
