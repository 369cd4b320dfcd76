/- Joined texts. What each part proves stands ahead of it; no condition. -/
import Derived.Test.YthfanchjkkeejaaLrM5
import Derived.WalkKit
import Derived.ProofKit
import Derived.OpenShut
import Derived.WideKeyArr2
import Derived.Test.YthfanchjkkeejaaLrM1

/- The law HeightReads: its runs, and why they answer true. -/
namespace Go.Proofs.Ythfanchjkkeejaa
open Go.Lr Go.RowKit
set_option linter.unusedVariables false
set_option linter.unusedSimpArgs false

theorem hr_true_true (t v0 v1 v2 v3 v4 v5 v6 v7 : Int) : (runF Try.prog S33 Zl 4000 9 [.v (.agg [.int .i64 t, .int .i64 v0, .int .i64 v1, .int .i64 v2, .int .i64 v3, .int .i64 v4, .int .i64 v5, .int .i64 v6, .int .i64 v7])] [] 0 [some false, some false, some false, some false, some false, some false, some false, some false, some false, some false, some false, some true, some true, some false, some true, some false, some false, some false, some true, some true, some true, some true, some true, some true, some true, some true, some true, some true, some false, some false, some true, some false, some true, some true, some true, some true, some true, some true, some true]).map (fun r => (r.1, r.2.2.2)) = some (LV.v (V1.one (At.bool !(false || !spB v0 v1 && mulDivH v0 1073741824 1000 || !spR v0 v1 v2 && mulDivH v0 1073741824 1000))), [((bif spR v0 v1 v2 then (1 : Int) else 0) == 1, true), ((bif spR v0 v1 v2 then (1 : Int) else 0) == 1, true), ((bif spR v0 v1 v2 then (1 : Int) else 0) == 1, true), ((bif spR v0 v1 v2 then (1 : Int) else 0) == 1, true), ((bif spR v0 v1 v2 then (1 : Int) else 0) == 1, true), ((bif spR v0 v1 v2 then (1 : Int) else 0) == 1, true), (((bif spR v0 v1 v2 then (1 : Int) else 0) == 0) == !spR v0 v1 v2, true), (((bif spR v0 v1 v2 then (1 : Int) else 0) == 0) == !spR v0 v1 v2, true), ((bif spR v0 v1 v2 then (1 : Int) else 0) == 0, false), ((bif spR v0 v1 v2 then (1 : Int) else 0) == 0, false), ((bif spR v0 v1 v2 then (1 : Int) else 0) == 0, false), (((bif spR v0 v1 v2 then (1 : Int) else 0) == 0) == !spR v0 v1 v2, true), (((bif spR v0 v1 v2 then (1 : Int) else 0) == 0) == !spR v0 v1 v2, true), (((bif spR v0 v1 v2 then (1 : Int) else 0) == 0) == !spR v0 v1 v2, true), ((bif spR v0 v1 v2 then 0 else mulDivV v0 1073741824 1000) == 0 && ((bif spR v0 v1 v2 then 0 else varV v1) == 0 && true) && ((bif spR v0 v1 v2 then 0 else v2) == 0 && true), true), ((bif spR v0 v1 v2 then 0 else mulDivV v0 1073741824 1000) == 0 && ((bif spR v0 v1 v2 then 0 else varV v1) == 0 && true) && ((bif spR v0 v1 v2 then 0 else v2) == 0 && true), true), ((bif spR v0 v1 v2 then 0 else mulDivV v0 1073741824 1000) == 0 && ((bif spR v0 v1 v2 then 0 else varV v1) == 0 && true) && ((bif spR v0 v1 v2 then 0 else v2) == 0 && true), true), ((bif spR v0 v1 v2 then 0 else mulDivV v0 1073741824 1000) == 0 && ((bif spR v0 v1 v2 then 0 else varV v1) == 0 && true) && ((bif spR v0 v1 v2 then 0 else v2) == 0 && true), true), ((bif spR v0 v1 v2 then 0 else mulDivV v0 1073741824 1000) == 0 && ((bif spR v0 v1 v2 then 0 else varV v1) == 0 && true) && ((bif spR v0 v1 v2 then 0 else v2) == 0 && true), true), ((bif spR v0 v1 v2 then 0 else mulDivV v0 1073741824 1000) == 0 && ((bif spR v0 v1 v2 then 0 else varV v1) == 0 && true) && ((bif spR v0 v1 v2 then 0 else v2) == 0 && true), true), ((bif spR v0 v1 v2 then 0 else mulDivV v0 1073741824 1000) == 0 && ((bif spR v0 v1 v2 then 0 else varV v1) == 0 && true) && ((bif spR v0 v1 v2 then 0 else v2) == 0 && true), true), (!spR v0 v1 v2, false), ((bif spB v0 v1 then (1 : Int) else 0) != 1, false), (((bif spB v0 v1 then (1 : Int) else 0) == 0) == spB v0 v1, false), (((bif spB v0 v1 then (1 : Int) else 0) == 0) == spB v0 v1, false), ((bif spB v0 v1 then (1 : Int) else 0) != 0, true), ((bif spB v0 v1 then (1 : Int) else 0) != 0, true), ((bif spB v0 v1 then (1 : Int) else 0) != 0, true), (((bif spB v0 v1 then (1 : Int) else 0) == 0) == spB v0 v1, false), (((bif spB v0 v1 then (1 : Int) else 0) == 0) == spB v0 v1, false), (((bif spB v0 v1 then (1 : Int) else 0) == 0) == spB v0 v1, false), (!((bif spB v0 v1 then 0 else mulDivV v0 1073741824 1000) == 0 && ((bif spB v0 v1 then 0 else varV v1) == 0 && true)), false), (!((bif spB v0 v1 then 0 else mulDivV v0 1073741824 1000) == 0 && ((bif spB v0 v1 then 0 else varV v1) == 0 && true)), false), (!((bif spB v0 v1 then 0 else mulDivV v0 1073741824 1000) == 0 && ((bif spB v0 v1 then 0 else varV v1) == 0 && true)), false), (!((bif spB v0 v1 then 0 else mulDivV v0 1073741824 1000) == 0 && ((bif spB v0 v1 then 0 else varV v1) == 0 && true)), false), (!((bif spB v0 v1 then 0 else mulDivV v0 1073741824 1000) == 0 && ((bif spB v0 v1 then 0 else varV v1) == 0 && true)), false), (!((bif spB v0 v1 then 0 else mulDivV v0 1073741824 1000) == 0 && ((bif spB v0 v1 then 0 else varV v1) == 0 && true)), false), (!spB v0 v1, false), (!true, false)]) := by kernel_rfl
theorem hr_true_false (t v0 v1 v2 v3 v4 v5 v6 v7 : Int) : (runF Try.prog S33 Zl 4000 9 [.v (.agg [.int .i64 t, .int .i64 v0, .int .i64 v1, .int .i64 v2, .int .i64 v3, .int .i64 v4, .int .i64 v5, .int .i64 v6, .int .i64 v7])] [] 0 [some false, some false, some false, some false, some false, some false, some false, some false, some false, some false, some false, some true, some true, some false, some true, some false, some false, some true, some true, some true, some true, some true, some true, some true, some true, some true, some true, some true, some true, some true, some true, some true, some true, some true, some true, some true, some true, some true, some true]).map (fun r => (r.1, r.2.2.2)) = some (LV.v (V1.one (At.bool !(false || !spB v0 v1 && mulDivH v0 1073741824 1000 || !spR v0 v1 v2 && mulDivH v0 1073741824 1000))), [(true, true), (true, true), (true, true), (true, true), (true, true), (true, true), (((bif spR v0 v1 v2 then (1 : Int) else 0) == 0) == !spR v0 v1 v2, true), (((bif spR v0 v1 v2 then (1 : Int) else 0) == 0) == !spR v0 v1 v2, true), ((bif spR v0 v1 v2 then (1 : Int) else 0) == 0, true), ((bif spR v0 v1 v2 then (1 : Int) else 0) == 0, true), ((bif spR v0 v1 v2 then (1 : Int) else 0) == 0, true), (((bif spR v0 v1 v2 then (1 : Int) else 0) == 0) == !spR v0 v1 v2, true), (((bif spR v0 v1 v2 then (1 : Int) else 0) == 0) == !spR v0 v1 v2, true), (((bif spR v0 v1 v2 then (1 : Int) else 0) == 0) == !spR v0 v1 v2, true), ((bif spR v0 v1 v2 then 0 else mulDivV v0 1073741824 1000) == mulDivV v0 1073741824 1000 && ((bif spR v0 v1 v2 then 0 else varV v1) == clampV (mulDivV (wr IntKind.i64 (v1 * v1)) 17592186044416 1000000) 1 72057594037927936 && true) && ((bif spR v0 v1 v2 then 0 else v2) == v2 && true), true), ((bif spR v0 v1 v2 then 0 else mulDivV v0 1073741824 1000) == mulDivV v0 1073741824 1000 && ((bif spR v0 v1 v2 then 0 else varV v1) == clampV (mulDivV (wr IntKind.i64 (v1 * v1)) 17592186044416 1000000) 1 72057594037927936 && true) && ((bif spR v0 v1 v2 then 0 else v2) == v2 && true), true), ((bif spR v0 v1 v2 then 0 else mulDivV v0 1073741824 1000) == mulDivV v0 1073741824 1000 && ((bif spR v0 v1 v2 then 0 else varV v1) == clampV (mulDivV (wr IntKind.i64 (v1 * v1)) 17592186044416 1000000) 1 72057594037927936 && true) && ((bif spR v0 v1 v2 then 0 else v2) == v2 && true), true), ((bif spR v0 v1 v2 then 0 else mulDivV v0 1073741824 1000) == mulDivV v0 1073741824 1000 && ((bif spR v0 v1 v2 then 0 else varV v1) == clampV (mulDivV (wr IntKind.i64 (v1 * v1)) 17592186044416 1000000) 1 72057594037927936 && true) && ((bif spR v0 v1 v2 then 0 else v2) == v2 && true), true), ((bif spR v0 v1 v2 then 0 else mulDivV v0 1073741824 1000) == mulDivV v0 1073741824 1000 && ((bif spR v0 v1 v2 then 0 else varV v1) == clampV (mulDivV (wr IntKind.i64 (v1 * v1)) 17592186044416 1000000) 1 72057594037927936 && true) && ((bif spR v0 v1 v2 then 0 else v2) == v2 && true), true), ((bif spR v0 v1 v2 then 0 else mulDivV v0 1073741824 1000) == mulDivV v0 1073741824 1000 && ((bif spR v0 v1 v2 then 0 else varV v1) == clampV (mulDivV (wr IntKind.i64 (v1 * v1)) 17592186044416 1000000) 1 72057594037927936 && true) && ((bif spR v0 v1 v2 then 0 else v2) == v2 && true), true), ((bif spR v0 v1 v2 then 0 else mulDivV v0 1073741824 1000) == mulDivV v0 1073741824 1000 && ((bif spR v0 v1 v2 then 0 else varV v1) == clampV (mulDivV (wr IntKind.i64 (v1 * v1)) 17592186044416 1000000) 1 72057594037927936 && true) && ((bif spR v0 v1 v2 then 0 else v2) == v2 && true), true), (!spR v0 v1 v2, true), ((bif spB v0 v1 then (1 : Int) else 0) != 1, false), (((bif spB v0 v1 then (1 : Int) else 0) == 0) == spB v0 v1, false), (((bif spB v0 v1 then (1 : Int) else 0) == 0) == spB v0 v1, false), ((bif spB v0 v1 then (1 : Int) else 0) != 0, true), ((bif spB v0 v1 then (1 : Int) else 0) != 0, true), ((bif spB v0 v1 then (1 : Int) else 0) != 0, true), (((bif spB v0 v1 then (1 : Int) else 0) == 0) == spB v0 v1, false), (((bif spB v0 v1 then (1 : Int) else 0) == 0) == spB v0 v1, false), (((bif spB v0 v1 then (1 : Int) else 0) == 0) == spB v0 v1, false), (!((bif spB v0 v1 then 0 else mulDivV v0 1073741824 1000) == 0 && ((bif spB v0 v1 then 0 else varV v1) == 0 && true)), false), (!((bif spB v0 v1 then 0 else mulDivV v0 1073741824 1000) == 0 && ((bif spB v0 v1 then 0 else varV v1) == 0 && true)), false), (!((bif spB v0 v1 then 0 else mulDivV v0 1073741824 1000) == 0 && ((bif spB v0 v1 then 0 else varV v1) == 0 && true)), false), (!((bif spB v0 v1 then 0 else mulDivV v0 1073741824 1000) == 0 && ((bif spB v0 v1 then 0 else varV v1) == 0 && true)), false), (!((bif spB v0 v1 then 0 else mulDivV v0 1073741824 1000) == 0 && ((bif spB v0 v1 then 0 else varV v1) == 0 && true)), false), (!((bif spB v0 v1 then 0 else mulDivV v0 1073741824 1000) == 0 && ((bif spB v0 v1 then 0 else varV v1) == 0 && true)), false), (!spB v0 v1, false), (!true, false)]) := by kernel_rfl
theorem hr_false_true (t v0 v1 v2 v3 v4 v5 v6 v7 : Int) : (runF Try.prog S33 Zl 4000 9 [.v (.agg [.int .i64 t, .int .i64 v0, .int .i64 v1, .int .i64 v2, .int .i64 v3, .int .i64 v4, .int .i64 v5, .int .i64 v6, .int .i64 v7])] [] 0 [some false, some true, some false, some false, some false, some false, some false, some false, some false, some false, some false, some false, some false, some false, some false, some false, some false, some false, some true, some true, some true, some true, some true, some true, some true, some true, some true, some true, some false, some false, some true, some false, some true, some true, some true, some true, some true, some true, some true]).map (fun r => (r.1, r.2.2.2)) = some (LV.v (V1.one (At.bool !(false || !spB v0 v1 && mulDivH v0 1073741824 1000 || !spR v0 v1 v2 && mulDivH v0 1073741824 1000))), [((bif spR v0 v1 v2 then (1 : Int) else 0) == 1, true), ((bif spR v0 v1 v2 then (1 : Int) else 0) == 1, true), ((bif spR v0 v1 v2 then (1 : Int) else 0) == 1, true), ((bif spR v0 v1 v2 then (1 : Int) else 0) == 1, true), ((bif spR v0 v1 v2 then (1 : Int) else 0) == 1, true), ((bif spR v0 v1 v2 then (1 : Int) else 0) == 1, true), (((bif spR v0 v1 v2 then (1 : Int) else 0) == 0) == !spR v0 v1 v2, true), (((bif spR v0 v1 v2 then (1 : Int) else 0) == 0) == !spR v0 v1 v2, true), ((bif spR v0 v1 v2 then (1 : Int) else 0) == 0, false), ((bif spR v0 v1 v2 then (1 : Int) else 0) == 0, false), ((bif spR v0 v1 v2 then (1 : Int) else 0) == 0, false), (((bif spR v0 v1 v2 then (1 : Int) else 0) == 0) == !spR v0 v1 v2, true), (((bif spR v0 v1 v2 then (1 : Int) else 0) == 0) == !spR v0 v1 v2, true), (((bif spR v0 v1 v2 then (1 : Int) else 0) == 0) == !spR v0 v1 v2, true), ((bif spR v0 v1 v2 then 0 else mulDivV v0 1073741824 1000) == 0 && ((bif spR v0 v1 v2 then 0 else varV v1) == 0 && true) && ((bif spR v0 v1 v2 then 0 else v2) == 0 && true), true), ((bif spR v0 v1 v2 then 0 else mulDivV v0 1073741824 1000) == 0 && ((bif spR v0 v1 v2 then 0 else varV v1) == 0 && true) && ((bif spR v0 v1 v2 then 0 else v2) == 0 && true), true), ((bif spR v0 v1 v2 then 0 else mulDivV v0 1073741824 1000) == 0 && ((bif spR v0 v1 v2 then 0 else varV v1) == 0 && true) && ((bif spR v0 v1 v2 then 0 else v2) == 0 && true), true), ((bif spR v0 v1 v2 then 0 else mulDivV v0 1073741824 1000) == 0 && ((bif spR v0 v1 v2 then 0 else varV v1) == 0 && true) && ((bif spR v0 v1 v2 then 0 else v2) == 0 && true), true), ((bif spR v0 v1 v2 then 0 else mulDivV v0 1073741824 1000) == 0 && ((bif spR v0 v1 v2 then 0 else varV v1) == 0 && true) && ((bif spR v0 v1 v2 then 0 else v2) == 0 && true), true), ((bif spR v0 v1 v2 then 0 else mulDivV v0 1073741824 1000) == 0 && ((bif spR v0 v1 v2 then 0 else varV v1) == 0 && true) && ((bif spR v0 v1 v2 then 0 else v2) == 0 && true), true), ((bif spR v0 v1 v2 then 0 else mulDivV v0 1073741824 1000) == 0 && ((bif spR v0 v1 v2 then 0 else varV v1) == 0 && true) && ((bif spR v0 v1 v2 then 0 else v2) == 0 && true), true), (!spR v0 v1 v2, false), (false, false), (((bif spB v0 v1 then (1 : Int) else 0) == 0) == spB v0 v1, false), (((bif spB v0 v1 then (1 : Int) else 0) == 0) == spB v0 v1, false), ((bif spB v0 v1 then (1 : Int) else 0) != 0, false), ((bif spB v0 v1 then (1 : Int) else 0) != 0, false), ((bif spB v0 v1 then (1 : Int) else 0) != 0, false), (((bif spB v0 v1 then (1 : Int) else 0) == 0) == spB v0 v1, false), (((bif spB v0 v1 then (1 : Int) else 0) == 0) == spB v0 v1, false), (((bif spB v0 v1 then (1 : Int) else 0) == 0) == spB v0 v1, false), (!((bif spB v0 v1 then 0 else mulDivV v0 1073741824 1000) == mulDivV v0 1073741824 1000 && ((bif spB v0 v1 then 0 else varV v1) == clampV (mulDivV (wr IntKind.i64 (v1 * v1)) 17592186044416 1000000) 1 72057594037927936 && true)), false), (!((bif spB v0 v1 then 0 else mulDivV v0 1073741824 1000) == mulDivV v0 1073741824 1000 && ((bif spB v0 v1 then 0 else varV v1) == clampV (mulDivV (wr IntKind.i64 (v1 * v1)) 17592186044416 1000000) 1 72057594037927936 && true)), false), (!((bif spB v0 v1 then 0 else mulDivV v0 1073741824 1000) == mulDivV v0 1073741824 1000 && ((bif spB v0 v1 then 0 else varV v1) == clampV (mulDivV (wr IntKind.i64 (v1 * v1)) 17592186044416 1000000) 1 72057594037927936 && true)), false), (!((bif spB v0 v1 then 0 else mulDivV v0 1073741824 1000) == mulDivV v0 1073741824 1000 && ((bif spB v0 v1 then 0 else varV v1) == clampV (mulDivV (wr IntKind.i64 (v1 * v1)) 17592186044416 1000000) 1 72057594037927936 && true)), false), (!((bif spB v0 v1 then 0 else mulDivV v0 1073741824 1000) == mulDivV v0 1073741824 1000 && ((bif spB v0 v1 then 0 else varV v1) == clampV (mulDivV (wr IntKind.i64 (v1 * v1)) 17592186044416 1000000) 1 72057594037927936 && true)), false), (!((bif spB v0 v1 then 0 else mulDivV v0 1073741824 1000) == mulDivV v0 1073741824 1000 && ((bif spB v0 v1 then 0 else varV v1) == clampV (mulDivV (wr IntKind.i64 (v1 * v1)) 17592186044416 1000000) 1 72057594037927936 && true)), false), (!spB v0 v1, true), (!true, false)]) := by kernel_rfl
theorem hr_false_false (t v0 v1 v2 v3 v4 v5 v6 v7 : Int) : (runF Try.prog S33 Zl 4000 9 [.v (.agg [.int .i64 t, .int .i64 v0, .int .i64 v1, .int .i64 v2, .int .i64 v3, .int .i64 v4, .int .i64 v5, .int .i64 v6, .int .i64 v7])] [] 0 [some false, some true, some false, some false, some false, some false, some false, some false, some false, some false, some false, some false, some false, some false, some false, some false, some false, some true, some true, some true, some true, some true, some true, some true, some true, some true, some true, some true, some true, some true, some true, some true, some true, some true, some true, some true, some true, some true, some true]).map (fun r => (r.1, r.2.2.2)) = some (LV.v (V1.one (At.bool !(false || !spB v0 v1 && mulDivH v0 1073741824 1000 || !spR v0 v1 v2 && mulDivH v0 1073741824 1000))), [(true, true), (true, true), (true, true), (true, true), (true, true), (true, true), (((bif spR v0 v1 v2 then (1 : Int) else 0) == 0) == !spR v0 v1 v2, true), (((bif spR v0 v1 v2 then (1 : Int) else 0) == 0) == !spR v0 v1 v2, true), ((bif spR v0 v1 v2 then (1 : Int) else 0) == 0, true), ((bif spR v0 v1 v2 then (1 : Int) else 0) == 0, true), ((bif spR v0 v1 v2 then (1 : Int) else 0) == 0, true), (((bif spR v0 v1 v2 then (1 : Int) else 0) == 0) == !spR v0 v1 v2, true), (((bif spR v0 v1 v2 then (1 : Int) else 0) == 0) == !spR v0 v1 v2, true), (((bif spR v0 v1 v2 then (1 : Int) else 0) == 0) == !spR v0 v1 v2, true), ((bif spR v0 v1 v2 then 0 else mulDivV v0 1073741824 1000) == mulDivV v0 1073741824 1000 && ((bif spR v0 v1 v2 then 0 else varV v1) == clampV (mulDivV (wr IntKind.i64 (v1 * v1)) 17592186044416 1000000) 1 72057594037927936 && true) && ((bif spR v0 v1 v2 then 0 else v2) == v2 && true), true), ((bif spR v0 v1 v2 then 0 else mulDivV v0 1073741824 1000) == mulDivV v0 1073741824 1000 && ((bif spR v0 v1 v2 then 0 else varV v1) == clampV (mulDivV (wr IntKind.i64 (v1 * v1)) 17592186044416 1000000) 1 72057594037927936 && true) && ((bif spR v0 v1 v2 then 0 else v2) == v2 && true), true), ((bif spR v0 v1 v2 then 0 else mulDivV v0 1073741824 1000) == mulDivV v0 1073741824 1000 && ((bif spR v0 v1 v2 then 0 else varV v1) == clampV (mulDivV (wr IntKind.i64 (v1 * v1)) 17592186044416 1000000) 1 72057594037927936 && true) && ((bif spR v0 v1 v2 then 0 else v2) == v2 && true), true), ((bif spR v0 v1 v2 then 0 else mulDivV v0 1073741824 1000) == mulDivV v0 1073741824 1000 && ((bif spR v0 v1 v2 then 0 else varV v1) == clampV (mulDivV (wr IntKind.i64 (v1 * v1)) 17592186044416 1000000) 1 72057594037927936 && true) && ((bif spR v0 v1 v2 then 0 else v2) == v2 && true), true), ((bif spR v0 v1 v2 then 0 else mulDivV v0 1073741824 1000) == mulDivV v0 1073741824 1000 && ((bif spR v0 v1 v2 then 0 else varV v1) == clampV (mulDivV (wr IntKind.i64 (v1 * v1)) 17592186044416 1000000) 1 72057594037927936 && true) && ((bif spR v0 v1 v2 then 0 else v2) == v2 && true), true), ((bif spR v0 v1 v2 then 0 else mulDivV v0 1073741824 1000) == mulDivV v0 1073741824 1000 && ((bif spR v0 v1 v2 then 0 else varV v1) == clampV (mulDivV (wr IntKind.i64 (v1 * v1)) 17592186044416 1000000) 1 72057594037927936 && true) && ((bif spR v0 v1 v2 then 0 else v2) == v2 && true), true), ((bif spR v0 v1 v2 then 0 else mulDivV v0 1073741824 1000) == mulDivV v0 1073741824 1000 && ((bif spR v0 v1 v2 then 0 else varV v1) == clampV (mulDivV (wr IntKind.i64 (v1 * v1)) 17592186044416 1000000) 1 72057594037927936 && true) && ((bif spR v0 v1 v2 then 0 else v2) == v2 && true), true), (!spR v0 v1 v2, true), (false, false), (((bif spB v0 v1 then (1 : Int) else 0) == 0) == spB v0 v1, false), (((bif spB v0 v1 then (1 : Int) else 0) == 0) == spB v0 v1, false), ((bif spB v0 v1 then (1 : Int) else 0) != 0, false), ((bif spB v0 v1 then (1 : Int) else 0) != 0, false), ((bif spB v0 v1 then (1 : Int) else 0) != 0, false), (((bif spB v0 v1 then (1 : Int) else 0) == 0) == spB v0 v1, false), (((bif spB v0 v1 then (1 : Int) else 0) == 0) == spB v0 v1, false), (((bif spB v0 v1 then (1 : Int) else 0) == 0) == spB v0 v1, false), (!((bif spB v0 v1 then 0 else mulDivV v0 1073741824 1000) == mulDivV v0 1073741824 1000 && ((bif spB v0 v1 then 0 else varV v1) == clampV (mulDivV (wr IntKind.i64 (v1 * v1)) 17592186044416 1000000) 1 72057594037927936 && true)), false), (!((bif spB v0 v1 then 0 else mulDivV v0 1073741824 1000) == mulDivV v0 1073741824 1000 && ((bif spB v0 v1 then 0 else varV v1) == clampV (mulDivV (wr IntKind.i64 (v1 * v1)) 17592186044416 1000000) 1 72057594037927936 && true)), false), (!((bif spB v0 v1 then 0 else mulDivV v0 1073741824 1000) == mulDivV v0 1073741824 1000 && ((bif spB v0 v1 then 0 else varV v1) == clampV (mulDivV (wr IntKind.i64 (v1 * v1)) 17592186044416 1000000) 1 72057594037927936 && true)), false), (!((bif spB v0 v1 then 0 else mulDivV v0 1073741824 1000) == mulDivV v0 1073741824 1000 && ((bif spB v0 v1 then 0 else varV v1) == clampV (mulDivV (wr IntKind.i64 (v1 * v1)) 17592186044416 1000000) 1 72057594037927936 && true)), false), (!((bif spB v0 v1 then 0 else mulDivV v0 1073741824 1000) == mulDivV v0 1073741824 1000 && ((bif spB v0 v1 then 0 else varV v1) == clampV (mulDivV (wr IntKind.i64 (v1 * v1)) 17592186044416 1000000) 1 72057594037927936 && true)), false), (!((bif spB v0 v1 then 0 else mulDivV v0 1073741824 1000) == mulDivV v0 1073741824 1000 && ((bif spB v0 v1 then 0 else varV v1) == clampV (mulDivV (wr IntKind.i64 (v1 * v1)) 17592186044416 1000000) 1 72057594037927936 && true)), false), (!spB v0 v1, true), (!true, false)]) := by kernel_rfl

theorem md_small {v d : Int} (h0 : -100000000 ≤ v) (h1 : v ≤ 100000000) (d0 : 0 < d) (d1 : d ≤ 1000000000) : mulDivH v 1073741824 d = false := by
  have e1 : satV 1073741824 = 1073741824 := by decide
  have e2 : satH 1073741824 = false := by decide
  have hq := quoR_bd (a := absV (v * 1073741824)) (b := absV d) (absV_nn _) (absV_pos' (by omega))
  have ha : absV (v * 1073741824) ≤ 107374182400000000 := by unfold absV; split <;> omega
  have hd : (d == 0) = false := by simp; omega
  have hdv : satH (divV (v * 1073741824) d) = false := by
    refine satH_in ?_ ?_ <;> (unfold divV sgn; split <;> omega)
  unfold mulDivH byH
  rw [sat_in (a := v) (by omega) (by omega), sat_in (a := d) (by omega) (by omega), e1, e2, hd, hdv, satH_in (a := v) (by omega) (by omega), satH_in (a := d) (by omega) (by omega)]
  rfl
theorem spB_f {v0 v1 : Int} (h : spB v0 v1 = false) : -100000000 ≤ v0 ∧ v0 ≤ 100000000 := by
  unfold spB at h; simp only [Bool.not_eq_false', Bool.and_eq_true, decide_eq_true_eq] at h; omega
theorem spR_f {v0 v1 v2 : Int} (h : spR v0 v1 v2 = false) : -100000000 ≤ v0 ∧ v0 ≤ 100000000 := by
  unfold spR at h; simp only [Bool.not_eq_false', Bool.and_eq_true, decide_eq_true_eq] at h; omega

theorem lawHeightReads (t v0 v1 v2 v3 v4 v5 v6 v7 : Int) (w : World) :
    Calls Try.prog 9 ([.v (.agg [.int .i64 t, .int .i64 v0, .int .i64 v1, .int .i64 v2, .int .i64 v3, .int .i64 v4, .int .i64 v5, .int .i64 v6, .int .i64 v7])].map (LV.den E0)).toArray w fun e w' => e = .returned (.bool true) ∧ Below w.heap.size w w' := by
  rcases bool_cases (spB v0 v1) with hB | hB <;> rcases bool_cases (spR v0 v1 v2) with hR | hR
  · exact law_true sound33 (hr_true_true t v0 v1 v2 v3 v4 v5 v6 v7) (by simp [hB, hR]) (by simp [hB, hR, varV]) rfl w
  · have hm := md_small (d := 1000) (spR_f hR).1 (spR_f hR).2 (by decide) (by decide); exact law_true sound33 (hr_true_false t v0 v1 v2 v3 v4 v5 v6 v7) (by simp [hB, hR, hm]) (by simp [hB, hR, varV]) rfl w
  · have hm := md_small (d := 1000) (spB_f hB).1 (spB_f hB).2 (by decide) (by decide); exact law_true sound33 (hr_false_true t v0 v1 v2 v3 v4 v5 v6 v7) (by simp [hB, hR, hm]) (by simp [hB, hR, varV]) rfl w
  · have hm := md_small (d := 1000) (spB_f hB).1 (spB_f hB).2 (by decide) (by decide); exact law_true sound33 (hr_false_false t v0 v1 v2 v3 v4 v5 v6 v7) (by simp [hB, hR, hm]) (by simp [hB, hR, varV]) rfl w
end Go.Proofs.Ythfanchjkkeejaa

/- Opening an array of numbers that a law is handed (the seventh form's data). -/
namespace Go.Lr
open Go.ChangeShapes Go.WideShapes Go.ChangeAt Go.RowKit

section
variable {H : Type} {enc : TypeId × Value → H} {P : Program} {k e : TypeId} {W : World} {base : Nat} {sp : Nat → Bool} {held : Bool}

theorem mapM_ints (he : P.underlying e = some (.int .i64)) {m : Nat} {cs : List Value} : ∀ (L : List Nat) (xs : List (DataW H × List MemPlace)),
    L.mapM (fun i => DataW.trod enc P W base sp held m e ((cs.drop (i * 1)).take 1)) = some xs →
    ∃ zs : List Int, zs.length = L.length ∧ xs = zs.map (fun z => (.lit (.int .i64 z), [])) ∧ (∀ z ∈ zs, (Lit.int .i64 z).wf = true) ∧
      (∀ (j : Nat) (h : j < L.length) (h' : j < zs.length), (cs.drop (L[j] * 1)).take 1 = [.int .i64 zs[j]]) ∧
      ∀ (W' : World) (base' : Nat) (sp' : Nat → Bool), L.mapM (fun i => DataW.trod enc P W' base' sp' held m e ((cs.drop (i * 1)).take 1)) = some xs
  | [], xs, h => by
    simp at h
    subst h
    exact ⟨[], rfl, rfl, by simp, by simp, fun _ _ _ => rfl⟩
  | i :: L, xs, h => by
    rw [List.mapM_cons] at h
    simp only [bind, Option.bind_eq_some_iff, pure, Option.some.injEq] at h
    obtain ⟨y, hy, ys, hys, rfl⟩ := h
    obtain ⟨zs, h1, rfl, h2, h3, h4⟩ := mapM_ints he L ys hys
    obtain ⟨a, ea, rfl, wa⟩ := DataW.trod_int he hy
    refine ⟨a :: zs, by simp [h1], rfl, ?_, ?_, fun W' base' sp' => ?_⟩
    · intro z hz
      rcases List.mem_cons.1 hz with rfl | hz
      · exact wa
      · exact h2 z hz
    · intro j hj hj'
      cases j with
      | zero => exact ea
      | succ j => exact h3 j (by simpa using hj) (by simpa using hj')
    · rw [List.mapM_cons, h4 W' base' sp']
      have hw : DataW.trod enc P W' base' sp' held m e ((cs.drop (i * 1)).take 1) = some (.lit (.int .i64 a), []) := by
        rw [ea] at hy ⊢
        cases m with
        | zero => simp [DataW.trod] at hy
        | succ m => simp [DataW.trod, he, wa]
      rw [hw]
      rfl

theorem open_arr {n : Nat} (hk : P.underlying k = some (.array n e)) (he : P.underlying e = some (.int .i64)) (hc : P.cellsOf k = n) (hce : P.cellsOf e = 1) {r : Reach} {b0 : Nat} {v : Value} {d : DataW H} {ps : List MemPlace}
    (hval : Value.okWide P W r b0 k v) (hd : DataW.Trod enc P W base sp held k v d ps) :
    ∃ zs : List Int, zs.length = n ∧ v = .agg (zs.map (Value.int .i64)).toArray ∧ ps = [] ∧ (∀ z ∈ zs, (Lit.int .i64 z).wf = true) ∧ ∀ (W' : World) (base' : Nat) (sp' : Nat → Bool), DataW.Trod enc P W' base' sp' held k v d [] := by
  simp only [Value.okWide, hk] at hval
  obtain ⟨cs, rfl, hs, -⟩ := hval
  rw [hc] at hs
  obtain ⟨fuel, hf⟩ := hd
  cases fuel with
  | zero => simp [DataW.trod] at hf
  | succ m =>
    rw [DataW.trod_step] at hf
    unfold DataW.trodStep at hf
    simp only [hk, Value.cells, hc, hce] at hf
    have hl : cs.toList.length = n := by simpa using hs
    rw [if_pos hl] at hf
    simp only [Option.map_eq_some_iff] at hf
    obtain ⟨ys, hy, e1⟩ := hf
    obtain ⟨zs, h1, rfl, h2, h3, h4⟩ := mapM_ints he _ ys hy
    rw [List.length_range] at h1
    simp only [Prod.mk.injEq] at e1
    have hcs : cs.toList = zs.map (Value.int .i64) := by
      refine List.ext_getElem (by simp [hl, h1]) fun j hj hj' => ?_
      have h := h3 j (by simpa using (show j < n by omega)) (by omega)
      rw [List.getElem_range, Nat.mul_one] at h
      have h5 : ((cs.toList.drop j).take 1)[0]? = some (Value.int .i64 zs[j]) := by rw [h]; rfl
      rw [List.getElem?_take, if_pos (by decide), List.getElem?_drop, Nat.add_zero, List.getElem?_eq_getElem hj] at h5
      simpa using h5
    refine ⟨zs, h1, by rw [← hcs], by rw [← e1.2]; simp [List.flatMap_eq_nil_iff], h2, fun W' base' sp' => ⟨m + 1, ?_⟩⟩
    rw [DataW.trod_step]
    unfold DataW.trodStep
    simp only [hk, Value.cells, hc, hce]
    rw [if_pos hl, h4 W' base' sp']
    simp only [Option.map_some, Option.some.injEq, Prod.mk.injEq]
    exact ⟨e1.1, by simp [List.flatMap_eq_nil_iff]⟩
end
end Go.Lr

/- Opening a struct of numbers that a law is handed. -/
namespace Go.Lr
open Go.ChangeShapes Go.WideShapes Go.ChangeAt Go.RowKit

section
variable {H : Type} {enc : TypeId × Value → H} {P : Program} {held : Bool}

/-- A type of so many whole numbers of 64 bits, one after the other. -/
def PlainT (enc : TypeId × Value → H) (P : Program) (held : Bool) (t : TypeId) (n : Nat) : Prop :=
  P.cellsOf t = n ∧ ∀ (W : World) (base : Nat) (sp : Nat → Bool) (m : Nat) (cs : List Value) (x : DataW H × List MemPlace), DataW.trod enc P W base sp held m t cs = some x →
    ∃ zs : List Int, zs.length = n ∧ cs = zs.map (Value.int .i64) ∧ x.2 = [] ∧ (∀ z ∈ zs, (Lit.int .i64 z).wf = true) ∧ ∀ (W' : World) (base' : Nat) (sp' : Nat → Bool), DataW.trod enc P W' base' sp' held m t cs = some x

theorem plain_int {t : TypeId} (ht : P.underlying t = some (.int .i64)) (hc : P.cellsOf t = 1) : PlainT enc P held t 1 := by
  refine ⟨hc, fun W base sp m cs x h => ?_⟩
  obtain ⟨a, rfl, rfl, wa⟩ := DataW.trod_int ht h
  refine ⟨[a], rfl, rfl, rfl, by simpa using wa, fun W' base' sp' => ?_⟩
  cases m with
  | zero => simp [DataW.trod] at h
  | succ m => simp [DataW.trod, ht, wa]

theorem plain_struct2 {t : TypeId} {fs : Array Field} {f0 f1 : Field} {n0 n1 : Nat} (ht : P.underlying t = some (.struct fs)) (hfs : fs.toList = [f0, f1]) (h0 : f0.offset = 0) (h1 : f1.offset = n0)
    (p0 : PlainT enc P held f0.type n0) (p1 : PlainT enc P held f1.type n1) (hc : P.cellsOf t = n0 + n1) : PlainT enc P held t (n0 + n1) := by
  refine ⟨hc, fun W base sp m cs x h => ?_⟩
  obtain ⟨c0, q0⟩ := p0
  obtain ⟨c1, q1⟩ := p1
  cases m with
  | zero => simp [DataW.trod] at h
  | succ m =>
    rw [DataW.trod_step] at h
    unfold DataW.trodStep at h
    simp only [ht] at h
    split at h
    · rename_i hl
      rw [hc] at hl
      simp only [hfs, List.mapM_cons, List.mapM_nil, bind, pure, h0, h1, c0, c1, List.drop_zero, Option.map_eq_some_iff, Option.bind_eq_some_iff, Option.some.injEq] at h
      obtain ⟨xs, ⟨y0, g0, ys, ⟨y1, g1, r, rfl, rfl⟩, rfl⟩, rfl⟩ := h
      obtain ⟨z0, a1, a2, a3, a4, a5⟩ := q0 _ _ _ _ _ _ g0
      obtain ⟨z1, b1, b2, b3, b4, b5⟩ := q1 _ _ _ _ _ _ g1
      have hcs : cs = (z0 ++ z1).map (Value.int .i64) := by
        rw [List.map_append, ← a2, ← b2, List.take_of_length_le (l := cs.drop n0) (by rw [List.length_drop]; omega), List.take_append_drop]
      refine ⟨z0 ++ z1, by simp [a1, b1], hcs, by simp [a3, b3], ?_, fun W' base' sp' => ?_⟩
      · intro z hz
        rcases List.mem_append.1 hz with hz | hz
        · exact a4 z hz
        · exact b4 z hz
      · rw [DataW.trod_step]
        unfold DataW.trodStep
        simp only [ht]
        rw [if_pos (by rw [hc]; exact hl)]
        simp only [hfs, List.mapM_cons, List.mapM_nil, bind, pure, h0, h1, c0, c1, List.drop_zero, a5 W' base' sp', b5 W' base' sp', Option.bind_some, Option.map_some]
    · cases h

/-- The two fields of a struct: their types, their places. -/
def twoF (P : Program) (t : TypeId) : Option (TypeId × Nat × TypeId × Nat) :=
  match P.underlying t with
  | some (.struct fs) => match fs.toList with
    | [f0, f1] => some (f0.type, f0.offset, f1.type, f1.offset)
    | _ => none
  | _ => none
theorem plain_two {t t0 t1 : TypeId} {n0 n1 : Nat} (h : twoF P t = some (t0, 0, t1, n0)) (p0 : PlainT enc P held t0 n0) (p1 : PlainT enc P held t1 n1) (hc : P.cellsOf t = n0 + n1) : PlainT enc P held t (n0 + n1) := by
  unfold twoF at h
  split at h
  · rename_i fs hu
    split at h
    · rename_i f0 f1 hl
      simp only [Option.some.injEq, Prod.mk.injEq] at h
      obtain ⟨rfl, h0, rfl, h1⟩ := h
      exact plain_struct2 hu hl h0 h1 p0 p1 hc
    · cases h
  · cases h
def isStruct (P : Program) (t : TypeId) : Bool :=
  match P.underlying t with
  | some (.struct _) => true
  | _ => false
theorem isStruct_spec {t : TypeId} (h : isStruct P t = true) : ∃ fs, P.underlying t = some (.struct fs) := by
  unfold isStruct at h
  split at h
  · rename_i fs hu; exact ⟨fs, hu⟩
  · cases h

theorem open_plain {t : TypeId} {n : Nat} (hs : isStruct P t = true) (hp : PlainT enc P held t n) {W : World} {base : Nat} {sp : Nat → Bool} {r : Reach} {b0 : Nat} {v : Value} {d : DataW H} {ps : List MemPlace}
    (hval : Value.okWide P W r b0 t v) (hd : DataW.Trod enc P W base sp held t v d ps) :
    ∃ zs : List Int, zs.length = n ∧ v = .agg (zs.map (Value.int .i64)).toArray ∧ ps = [] ∧ (∀ z ∈ zs, (Lit.int .i64 z).wf = true) ∧ ∀ (W' : World) (base' : Nat) (sp' : Nat → Bool), DataW.Trod enc P W' base' sp' held t v d [] := by
  obtain ⟨fs, ht⟩ := isStruct_spec hs
  simp only [Value.okWide, ht] at hval
  obtain ⟨cs, rfl, hsz, -⟩ := hval
  obtain ⟨fuel, hf⟩ := hd
  obtain ⟨zs, h1, h2, h3, h4, h5⟩ := hp.2 _ _ _ _ _ _ hf
  simp only [Value.cells] at h2 h5
  simp only at h3
  subst h3
  exact ⟨zs, h1, by rw [← h2], rfl, h4, fun W' base' sp' => ⟨fuel, h5 W' base' sp'⟩⟩
end
end Go.Lr

/- Opening an array of numbers that lies in a struct that a law is handed. -/
namespace Go.Lr
open Go.ChangeShapes Go.WideShapes Go.ChangeAt Go.RowKit

section
variable {H : Type} {enc : TypeId × Value → H} {P : Program} {held : Bool}

theorem plain_arr {t e : TypeId} {n : Nat} (hk : P.underlying t = some (.array n e)) (he : P.underlying e = some (.int .i64)) (hc : P.cellsOf t = n) (hce : P.cellsOf e = 1) : PlainT enc P held t n := by
  refine ⟨hc, fun W base sp m cs x h => ?_⟩
  cases m with
  | zero => simp [DataW.trod] at h
  | succ m =>
    rw [DataW.trod_step] at h
    unfold DataW.trodStep at h
    simp only [hk, hc, hce] at h
    split at h
    · rename_i hl
      simp only [Option.map_eq_some_iff] at h
      obtain ⟨ys, hy, e1⟩ := h
      obtain ⟨zs, h1, rfl, h2, h3, h4⟩ := mapM_ints he _ ys hy
      rw [List.length_range] at h1
      have hcs : cs = zs.map (Value.int .i64) := by
        refine List.ext_getElem (by simp [hl, h1]) fun j hj hj' => ?_
        have h := h3 j (by simpa using (show j < n by omega)) (by omega)
        rw [List.getElem_range, Nat.mul_one] at h
        have h5 : ((cs.drop j).take 1)[0]? = some (Value.int .i64 zs[j]) := by rw [h]; rfl
        rw [List.getElem?_take, if_pos (by decide), List.getElem?_drop, Nat.add_zero, List.getElem?_eq_getElem hj] at h5
        simpa using h5
      refine ⟨zs, h1, hcs, by rw [← e1]; simp [List.flatMap_eq_nil_iff], h2, fun W' base' sp' => ?_⟩
      rw [DataW.trod_step]
      unfold DataW.trodStep
      simp only [hk, hc, hce]
      rw [if_pos hl, h4 W' base' sp']
      simp only [Option.map_some, Option.some.injEq]
      exact e1
    · cases h
end
end Go.Lr
