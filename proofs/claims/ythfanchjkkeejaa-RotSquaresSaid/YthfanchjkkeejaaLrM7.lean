/- Joined texts. What each part proves stands ahead of it; no condition. -/
import Derived.Test.YthfanchjkkeejaaLrM6
import Derived.WalkKit
import Derived.ProofKit
import Derived.OpenShut
import Derived.WideKeyArr2
import Derived.Test.YthfanchjkkeejaaLrM1

/- The law RotSquares: its run, and why it answers true. -/
namespace Go.Proofs.Ythfanchjkkeejaa
open Go.Lr Go.RowKit
set_option linter.unusedVariables false
set_option linter.unusedSimpArgs false

def rs00 (s0 s1 s2 s3 : Int) : Int := dotV 30 [rm0 s0 s1 s2 s3, rm1 s0 s1 s2 s3, rm2 s0 s1 s2 s3] [rm0 s0 s1 s2 s3, rm1 s0 s1 s2 s3, rm2 s0 s1 s2 s3]
def rh00 (s0 s1 s2 s3 : Int) : Bool := dotH 30 [rm0 s0 s1 s2 s3, rm1 s0 s1 s2 s3, rm2 s0 s1 s2 s3] [rm0 s0 s1 s2 s3, rm1 s0 s1 s2 s3, rm2 s0 s1 s2 s3]
def rH00 (h : Bool) (s0 s1 s2 s3 : Int) : Bool := h || rh00 s0 s1 s2 s3
def rs01 (s0 s1 s2 s3 : Int) : Int := dotV 30 [rm0 s0 s1 s2 s3, rm1 s0 s1 s2 s3, rm2 s0 s1 s2 s3] [rm3 s0 s1 s2 s3, rm4 s0 s1 s2 s3, rm5 s0 s1 s2 s3]
def rh01 (s0 s1 s2 s3 : Int) : Bool := dotH 30 [rm0 s0 s1 s2 s3, rm1 s0 s1 s2 s3, rm2 s0 s1 s2 s3] [rm3 s0 s1 s2 s3, rm4 s0 s1 s2 s3, rm5 s0 s1 s2 s3]
def rH01 (h : Bool) (s0 s1 s2 s3 : Int) : Bool := h || rh01 s0 s1 s2 s3
def rs02 (s0 s1 s2 s3 : Int) : Int := dotV 30 [rm0 s0 s1 s2 s3, rm1 s0 s1 s2 s3, rm2 s0 s1 s2 s3] [rm6 s0 s1 s2 s3, rm7 s0 s1 s2 s3, rm8 s0 s1 s2 s3]
def rh02 (s0 s1 s2 s3 : Int) : Bool := dotH 30 [rm0 s0 s1 s2 s3, rm1 s0 s1 s2 s3, rm2 s0 s1 s2 s3] [rm6 s0 s1 s2 s3, rm7 s0 s1 s2 s3, rm8 s0 s1 s2 s3]
def rH02 (h : Bool) (s0 s1 s2 s3 : Int) : Bool := h || rh02 s0 s1 s2 s3
def rs10 (s0 s1 s2 s3 : Int) : Int := dotV 30 [rm3 s0 s1 s2 s3, rm4 s0 s1 s2 s3, rm5 s0 s1 s2 s3] [rm0 s0 s1 s2 s3, rm1 s0 s1 s2 s3, rm2 s0 s1 s2 s3]
def rh10 (s0 s1 s2 s3 : Int) : Bool := dotH 30 [rm3 s0 s1 s2 s3, rm4 s0 s1 s2 s3, rm5 s0 s1 s2 s3] [rm0 s0 s1 s2 s3, rm1 s0 s1 s2 s3, rm2 s0 s1 s2 s3]
def rH10 (h : Bool) (s0 s1 s2 s3 : Int) : Bool := h || rh10 s0 s1 s2 s3
def rs11 (s0 s1 s2 s3 : Int) : Int := dotV 30 [rm3 s0 s1 s2 s3, rm4 s0 s1 s2 s3, rm5 s0 s1 s2 s3] [rm3 s0 s1 s2 s3, rm4 s0 s1 s2 s3, rm5 s0 s1 s2 s3]
def rh11 (s0 s1 s2 s3 : Int) : Bool := dotH 30 [rm3 s0 s1 s2 s3, rm4 s0 s1 s2 s3, rm5 s0 s1 s2 s3] [rm3 s0 s1 s2 s3, rm4 s0 s1 s2 s3, rm5 s0 s1 s2 s3]
def rH11 (h : Bool) (s0 s1 s2 s3 : Int) : Bool := h || rh11 s0 s1 s2 s3
def rs12 (s0 s1 s2 s3 : Int) : Int := dotV 30 [rm3 s0 s1 s2 s3, rm4 s0 s1 s2 s3, rm5 s0 s1 s2 s3] [rm6 s0 s1 s2 s3, rm7 s0 s1 s2 s3, rm8 s0 s1 s2 s3]
def rh12 (s0 s1 s2 s3 : Int) : Bool := dotH 30 [rm3 s0 s1 s2 s3, rm4 s0 s1 s2 s3, rm5 s0 s1 s2 s3] [rm6 s0 s1 s2 s3, rm7 s0 s1 s2 s3, rm8 s0 s1 s2 s3]
def rH12 (h : Bool) (s0 s1 s2 s3 : Int) : Bool := h || rh12 s0 s1 s2 s3
def rs20 (s0 s1 s2 s3 : Int) : Int := dotV 30 [rm6 s0 s1 s2 s3, rm7 s0 s1 s2 s3, rm8 s0 s1 s2 s3] [rm0 s0 s1 s2 s3, rm1 s0 s1 s2 s3, rm2 s0 s1 s2 s3]
def rh20 (s0 s1 s2 s3 : Int) : Bool := dotH 30 [rm6 s0 s1 s2 s3, rm7 s0 s1 s2 s3, rm8 s0 s1 s2 s3] [rm0 s0 s1 s2 s3, rm1 s0 s1 s2 s3, rm2 s0 s1 s2 s3]
def rH20 (h : Bool) (s0 s1 s2 s3 : Int) : Bool := h || rh20 s0 s1 s2 s3
def rs21 (s0 s1 s2 s3 : Int) : Int := dotV 30 [rm6 s0 s1 s2 s3, rm7 s0 s1 s2 s3, rm8 s0 s1 s2 s3] [rm3 s0 s1 s2 s3, rm4 s0 s1 s2 s3, rm5 s0 s1 s2 s3]
def rh21 (s0 s1 s2 s3 : Int) : Bool := dotH 30 [rm6 s0 s1 s2 s3, rm7 s0 s1 s2 s3, rm8 s0 s1 s2 s3] [rm3 s0 s1 s2 s3, rm4 s0 s1 s2 s3, rm5 s0 s1 s2 s3]
def rH21 (h : Bool) (s0 s1 s2 s3 : Int) : Bool := h || rh21 s0 s1 s2 s3
def rs22 (s0 s1 s2 s3 : Int) : Int := dotV 30 [rm6 s0 s1 s2 s3, rm7 s0 s1 s2 s3, rm8 s0 s1 s2 s3] [rm6 s0 s1 s2 s3, rm7 s0 s1 s2 s3, rm8 s0 s1 s2 s3]
def rh22 (s0 s1 s2 s3 : Int) : Bool := dotH 30 [rm6 s0 s1 s2 s3, rm7 s0 s1 s2 s3, rm8 s0 s1 s2 s3] [rm6 s0 s1 s2 s3, rm7 s0 s1 s2 s3, rm8 s0 s1 s2 s3]
def rH22 (h : Bool) (s0 s1 s2 s3 : Int) : Bool := h || rh22 s0 s1 s2 s3
def rqF (u0 u1 u2 u3 : Int) : Bool := rmF (rH22 (rH21 (rH20 (rH12 (rH11 (rH10 (rH02 (rH01 (rH00 (rmF (false || satH u0 || satH u1 || satH u2 || satH u3) (satV u0) (satV u1) (satV u2) (satV u3)) (satV u0) (satV u1) (satV u2) (satV u3)) (satV u0) (satV u1) (satV u2) (satV u3)) (satV u0) (satV u1) (satV u2) (satV u3)) (satV u0) (satV u1) (satV u2) (satV u3)) (satV u0) (satV u1) (satV u2) (satV u3)) (satV u0) (satV u1) (satV u2) (satV u3)) (satV u0) (satV u1) (satV u2) (satV u3)) (satV u0) (satV u1) (satV u2) (satV u3)) (satV u0) (satV u1) (satV u2) (satV u3) || satH (wr IntKind.i64 (0 - u0)) || satH (wr IntKind.i64 (0 - u1)) || satH (wr IntKind.i64 (0 - u2)) || satH (wr IntKind.i64 (0 - u3))) (satV (wr IntKind.i64 (0 - u0))) (satV (wr IntKind.i64 (0 - u1))) (satV (wr IntKind.i64 (0 - u2))) (satV (wr IntKind.i64 (0 - u3)))
def rqE (u0 u1 u2 u3 : Int) : Bool := (rm0 (satV (wr IntKind.i64 (0 - u0))) (satV (wr IntKind.i64 (0 - u1))) (satV (wr IntKind.i64 (0 - u2))) (satV (wr IntKind.i64 (0 - u3))) == rm0 (satV u0) (satV u1) (satV u2) (satV u3) && (rm1 (satV (wr IntKind.i64 (0 - u0))) (satV (wr IntKind.i64 (0 - u1))) (satV (wr IntKind.i64 (0 - u2))) (satV (wr IntKind.i64 (0 - u3))) == rm1 (satV u0) (satV u1) (satV u2) (satV u3) && (rm2 (satV (wr IntKind.i64 (0 - u0))) (satV (wr IntKind.i64 (0 - u1))) (satV (wr IntKind.i64 (0 - u2))) (satV (wr IntKind.i64 (0 - u3))) == rm2 (satV u0) (satV u1) (satV u2) (satV u3) && (rm3 (satV (wr IntKind.i64 (0 - u0))) (satV (wr IntKind.i64 (0 - u1))) (satV (wr IntKind.i64 (0 - u2))) (satV (wr IntKind.i64 (0 - u3))) == rm3 (satV u0) (satV u1) (satV u2) (satV u3) && (rm4 (satV (wr IntKind.i64 (0 - u0))) (satV (wr IntKind.i64 (0 - u1))) (satV (wr IntKind.i64 (0 - u2))) (satV (wr IntKind.i64 (0 - u3))) == rm4 (satV u0) (satV u1) (satV u2) (satV u3) && (rm5 (satV (wr IntKind.i64 (0 - u0))) (satV (wr IntKind.i64 (0 - u1))) (satV (wr IntKind.i64 (0 - u2))) (satV (wr IntKind.i64 (0 - u3))) == rm5 (satV u0) (satV u1) (satV u2) (satV u3) && (rm6 (satV (wr IntKind.i64 (0 - u0))) (satV (wr IntKind.i64 (0 - u1))) (satV (wr IntKind.i64 (0 - u2))) (satV (wr IntKind.i64 (0 - u3))) == rm6 (satV u0) (satV u1) (satV u2) (satV u3) && (rm7 (satV (wr IntKind.i64 (0 - u0))) (satV (wr IntKind.i64 (0 - u1))) (satV (wr IntKind.i64 (0 - u2))) (satV (wr IntKind.i64 (0 - u3))) == rm7 (satV u0) (satV u1) (satV u2) (satV u3) && (rm8 (satV (wr IntKind.i64 (0 - u0))) (satV (wr IntKind.i64 (0 - u1))) (satV (wr IntKind.i64 (0 - u2))) (satV (wr IntKind.i64 (0 - u3))) == rm8 (satV u0) (satV u1) (satV u2) (satV u3) && true)))))))))
theorem rqR (a0 a1 a2 a3 : Int) : (runF Try.prog S46 Zl 4000 13 [.v (.agg [.int .i64 a0, .int .i64 a1, .int .i64 a2, .int .i64 a3])] [] 0 [none, none, none, none, some false, some false, some false, some false, none, none, some false, some false, some false, some false, none, none, some false, some false, some false, some false, none, none, none, none, some false, some false, some false, some false, none, none, some false, some false, some false, some false, none, none, some false, some false, some false, some false, none, none, none, none, some false, some false, some false, some false, none, none, some false, some false, some false, some false, none, none, some false, some false, some false, some false, none, none, some true, some true, some true, some true, some true, some true]).map (fun r => (r.1, r.2.2.2)) = some (.v (.one (.bool (!rqF (uV0 a0 a1 a2 a3) (uV1 a0 a1 a2 a3) (uV2 a0 a1 a2 a3) (uV3 a0 a1 a2 a3)))), [(rqE (uV0 a0 a1 a2 a3) (uV1 a0 a1 a2 a3) (uV2 a0 a1 a2 a3) (uV3 a0 a1 a2 a3), true), (rqE (uV0 a0 a1 a2 a3) (uV1 a0 a1 a2 a3) (uV2 a0 a1 a2 a3) (uV3 a0 a1 a2 a3), true), (rqE (uV0 a0 a1 a2 a3) (uV1 a0 a1 a2 a3) (uV2 a0 a1 a2 a3) (uV3 a0 a1 a2 a3), true), (rqE (uV0 a0 a1 a2 a3) (uV1 a0 a1 a2 a3) (uV2 a0 a1 a2 a3) (uV3 a0 a1 a2 a3), true), (rqE (uV0 a0 a1 a2 a3) (uV1 a0 a1 a2 a3) (uV2 a0 a1 a2 a3) (uV3 a0 a1 a2 a3), true), (rqE (uV0 a0 a1 a2 a3) (uV1 a0 a1 a2 a3) (uV2 a0 a1 a2 a3) (uV3 a0 a1 a2 a3), true), (decide (wr IntKind.i64 (rs22 (satV (uV0 a0 a1 a2 a3)) (satV (uV1 a0 a1 a2 a3)) (satV (uV2 a0 a1 a2 a3)) (satV (uV3 a0 a1 a2 a3)) - 1073741824) < -64), false), (decide (wr IntKind.i64 (rs22 (satV (uV0 a0 a1 a2 a3)) (satV (uV1 a0 a1 a2 a3)) (satV (uV2 a0 a1 a2 a3)) (satV (uV3 a0 a1 a2 a3)) - 1073741824) > 64), false), (decide (wr IntKind.i64 (rs22 (satV (uV0 a0 a1 a2 a3)) (satV (uV1 a0 a1 a2 a3)) (satV (uV2 a0 a1 a2 a3)) (satV (uV3 a0 a1 a2 a3)) - 1073741824) > 64), false), (decide (wr IntKind.i64 (rs22 (satV (uV0 a0 a1 a2 a3)) (satV (uV1 a0 a1 a2 a3)) (satV (uV2 a0 a1 a2 a3)) (satV (uV3 a0 a1 a2 a3)) - 1073741824) > 64), false), (decide (rs21 (satV (uV0 a0 a1 a2 a3)) (satV (uV1 a0 a1 a2 a3)) (satV (uV2 a0 a1 a2 a3)) (satV (uV3 a0 a1 a2 a3)) < -64), false), (decide (rs21 (satV (uV0 a0 a1 a2 a3)) (satV (uV1 a0 a1 a2 a3)) (satV (uV2 a0 a1 a2 a3)) (satV (uV3 a0 a1 a2 a3)) > 64), false), (decide (rs21 (satV (uV0 a0 a1 a2 a3)) (satV (uV1 a0 a1 a2 a3)) (satV (uV2 a0 a1 a2 a3)) (satV (uV3 a0 a1 a2 a3)) > 64), false), (decide (rs21 (satV (uV0 a0 a1 a2 a3)) (satV (uV1 a0 a1 a2 a3)) (satV (uV2 a0 a1 a2 a3)) (satV (uV3 a0 a1 a2 a3)) > 64), false), (decide (rs20 (satV (uV0 a0 a1 a2 a3)) (satV (uV1 a0 a1 a2 a3)) (satV (uV2 a0 a1 a2 a3)) (satV (uV3 a0 a1 a2 a3)) < -64), false), (decide (rs20 (satV (uV0 a0 a1 a2 a3)) (satV (uV1 a0 a1 a2 a3)) (satV (uV2 a0 a1 a2 a3)) (satV (uV3 a0 a1 a2 a3)) > 64), false), (decide (rs20 (satV (uV0 a0 a1 a2 a3)) (satV (uV1 a0 a1 a2 a3)) (satV (uV2 a0 a1 a2 a3)) (satV (uV3 a0 a1 a2 a3)) > 64), false), (decide (rs20 (satV (uV0 a0 a1 a2 a3)) (satV (uV1 a0 a1 a2 a3)) (satV (uV2 a0 a1 a2 a3)) (satV (uV3 a0 a1 a2 a3)) > 64), false), (decide (rs12 (satV (uV0 a0 a1 a2 a3)) (satV (uV1 a0 a1 a2 a3)) (satV (uV2 a0 a1 a2 a3)) (satV (uV3 a0 a1 a2 a3)) < -64), false), (decide (rs12 (satV (uV0 a0 a1 a2 a3)) (satV (uV1 a0 a1 a2 a3)) (satV (uV2 a0 a1 a2 a3)) (satV (uV3 a0 a1 a2 a3)) > 64), false), (decide (rs12 (satV (uV0 a0 a1 a2 a3)) (satV (uV1 a0 a1 a2 a3)) (satV (uV2 a0 a1 a2 a3)) (satV (uV3 a0 a1 a2 a3)) > 64), false), (decide (rs12 (satV (uV0 a0 a1 a2 a3)) (satV (uV1 a0 a1 a2 a3)) (satV (uV2 a0 a1 a2 a3)) (satV (uV3 a0 a1 a2 a3)) > 64), false), (decide (wr IntKind.i64 (rs11 (satV (uV0 a0 a1 a2 a3)) (satV (uV1 a0 a1 a2 a3)) (satV (uV2 a0 a1 a2 a3)) (satV (uV3 a0 a1 a2 a3)) - 1073741824) < -64), false), (decide (wr IntKind.i64 (rs11 (satV (uV0 a0 a1 a2 a3)) (satV (uV1 a0 a1 a2 a3)) (satV (uV2 a0 a1 a2 a3)) (satV (uV3 a0 a1 a2 a3)) - 1073741824) > 64), false), (decide (wr IntKind.i64 (rs11 (satV (uV0 a0 a1 a2 a3)) (satV (uV1 a0 a1 a2 a3)) (satV (uV2 a0 a1 a2 a3)) (satV (uV3 a0 a1 a2 a3)) - 1073741824) > 64), false), (decide (wr IntKind.i64 (rs11 (satV (uV0 a0 a1 a2 a3)) (satV (uV1 a0 a1 a2 a3)) (satV (uV2 a0 a1 a2 a3)) (satV (uV3 a0 a1 a2 a3)) - 1073741824) > 64), false), (decide (rs10 (satV (uV0 a0 a1 a2 a3)) (satV (uV1 a0 a1 a2 a3)) (satV (uV2 a0 a1 a2 a3)) (satV (uV3 a0 a1 a2 a3)) < -64), false), (decide (rs10 (satV (uV0 a0 a1 a2 a3)) (satV (uV1 a0 a1 a2 a3)) (satV (uV2 a0 a1 a2 a3)) (satV (uV3 a0 a1 a2 a3)) > 64), false), (decide (rs10 (satV (uV0 a0 a1 a2 a3)) (satV (uV1 a0 a1 a2 a3)) (satV (uV2 a0 a1 a2 a3)) (satV (uV3 a0 a1 a2 a3)) > 64), false), (decide (rs10 (satV (uV0 a0 a1 a2 a3)) (satV (uV1 a0 a1 a2 a3)) (satV (uV2 a0 a1 a2 a3)) (satV (uV3 a0 a1 a2 a3)) > 64), false), (decide (rs02 (satV (uV0 a0 a1 a2 a3)) (satV (uV1 a0 a1 a2 a3)) (satV (uV2 a0 a1 a2 a3)) (satV (uV3 a0 a1 a2 a3)) < -64), false), (decide (rs02 (satV (uV0 a0 a1 a2 a3)) (satV (uV1 a0 a1 a2 a3)) (satV (uV2 a0 a1 a2 a3)) (satV (uV3 a0 a1 a2 a3)) > 64), false), (decide (rs02 (satV (uV0 a0 a1 a2 a3)) (satV (uV1 a0 a1 a2 a3)) (satV (uV2 a0 a1 a2 a3)) (satV (uV3 a0 a1 a2 a3)) > 64), false), (decide (rs02 (satV (uV0 a0 a1 a2 a3)) (satV (uV1 a0 a1 a2 a3)) (satV (uV2 a0 a1 a2 a3)) (satV (uV3 a0 a1 a2 a3)) > 64), false), (decide (rs01 (satV (uV0 a0 a1 a2 a3)) (satV (uV1 a0 a1 a2 a3)) (satV (uV2 a0 a1 a2 a3)) (satV (uV3 a0 a1 a2 a3)) < -64), false), (decide (rs01 (satV (uV0 a0 a1 a2 a3)) (satV (uV1 a0 a1 a2 a3)) (satV (uV2 a0 a1 a2 a3)) (satV (uV3 a0 a1 a2 a3)) > 64), false), (decide (rs01 (satV (uV0 a0 a1 a2 a3)) (satV (uV1 a0 a1 a2 a3)) (satV (uV2 a0 a1 a2 a3)) (satV (uV3 a0 a1 a2 a3)) > 64), false), (decide (rs01 (satV (uV0 a0 a1 a2 a3)) (satV (uV1 a0 a1 a2 a3)) (satV (uV2 a0 a1 a2 a3)) (satV (uV3 a0 a1 a2 a3)) > 64), false), (decide (wr IntKind.i64 (rs00 (satV (uV0 a0 a1 a2 a3)) (satV (uV1 a0 a1 a2 a3)) (satV (uV2 a0 a1 a2 a3)) (satV (uV3 a0 a1 a2 a3)) - 1073741824) < -64), false), (decide (wr IntKind.i64 (rs00 (satV (uV0 a0 a1 a2 a3)) (satV (uV1 a0 a1 a2 a3)) (satV (uV2 a0 a1 a2 a3)) (satV (uV3 a0 a1 a2 a3)) - 1073741824) > 64), false), (decide (wr IntKind.i64 (rs00 (satV (uV0 a0 a1 a2 a3)) (satV (uV1 a0 a1 a2 a3)) (satV (uV2 a0 a1 a2 a3)) (satV (uV3 a0 a1 a2 a3)) - 1073741824) > 64), false), (decide (wr IntKind.i64 (rs00 (satV (uV0 a0 a1 a2 a3)) (satV (uV1 a0 a1 a2 a3)) (satV (uV2 a0 a1 a2 a3)) (satV (uV3 a0 a1 a2 a3)) - 1073741824) > 64), false)]) := by kernel_rfl
-- @@run
theorem rs_00 {s0 s1 s2 s3 : Int} (h : UnitQ s0 s1 s2 s3) : (1073741824 - 30 ≤ rs00 s0 s1 s2 s3 ∧ rs00 s0 s1 s2 s3 ≤ 1073741824 + 30) ∧ ∀ h', rH00 h' s0 s1 s2 s3 = h' := by
  obtain ⟨e0, e1, e2, e3, e4, e5, e6, e7, e8, -⟩ := rm_eq h.ha h.hb h.hc h.hd
  obtain ⟨b0, b1, b2, b3, b4, b5, b6, b7, b8⟩ := mx_bd h.ha h.hb h.hc h.hd
  have d : mx0 s0 s1 s2 s3 * mx0 s0 s1 s2 s3 + mx1 s0 s1 s2 s3 * mx1 s0 s1 s2 s3 + mx2 s0 s1 s2 s3 * mx2 s0 s1 s2 s3 = n4 s0 s1 s2 s3 * n4 s0 s1 s2 s3 := by unfold mx0 mx1 mx2 n4; grind
  have hn := h.hn
  unfold nearU at hn
  have up : n4 s0 s1 s2 s3 * n4 s0 s1 s2 s3 ≤ 1152921508364943360 * 1152921508364943360 := Int.mul_le_mul (by omega) (by omega) (by omega) (by omega)
  have lo : 1152921500848750592 * 1152921500848750592 ≤ n4 s0 s1 s2 s3 * n4 s0 s1 s2 s3 := Int.mul_le_mul (by omega) (by omega) (by omega) (by omega)
  unfold rs00 rH00 rh00
  rw [e0, e1, e2]
  have t0 := rowt (rn_rnd (mx0 s0 s1 s2 s3)) (rn_rnd (mx0 s0 s1 s2 s3)) b0 b0
  have t1 := rowt (rn_rnd (mx1 s0 s1 s2 s3)) (rn_rnd (mx1 s0 s1 s2 s3)) b1 b1
  have t2 := rowt (rn_rnd (mx2 s0 s1 s2 s3)) (rn_rnd (mx2 s0 s1 s2 s3)) b2 b2
  obtain ⟨g1, g2⟩ := dotO3 (w := rndV (mx0 s0 s1 s2 s3) 30 * rndV (mx0 s0 s1 s2 s3) 30 + rndV (mx1 s0 s1 s2 s3) 30 * rndV (mx1 s0 s1 s2 s3) 30 + rndV (mx2 s0 s1 s2 s3) 30 * rndV (mx2 s0 s1 s2 s3) 30) (rn_sm (rn_rnd _) b0) (rn_sm (rn_rnd _) b1) (rn_sm (rn_rnd _) b2) (rn_sm (rn_rnd _) b0) (rn_sm (rn_rnd _) b1) (rn_sm (rn_rnd _) b2) (by omega)
  rw [g1, g2]
  have r := rn_rnd (rndV (mx0 s0 s1 s2 s3) 30 * rndV (mx0 s0 s1 s2 s3) 30 + rndV (mx1 s0 s1 s2 s3) 30 * rndV (mx1 s0 s1 s2 s3) 30 + rndV (mx2 s0 s1 s2 s3) 30 * rndV (mx2 s0 s1 s2 s3) 30)
  unfold RN at r
  refine ⟨?_, fun h => by simp⟩
  generalize n4 s0 s1 s2 s3 * n4 s0 s1 s2 s3 = D at *
  generalize rndV (mx0 s0 s1 s2 s3) 30 * rndV (mx0 s0 s1 s2 s3) 30 = x0 at *
  generalize mx0 s0 s1 s2 s3 * mx0 s0 s1 s2 s3 = y0 at *
  generalize rndV (mx1 s0 s1 s2 s3) 30 * rndV (mx1 s0 s1 s2 s3) 30 = x1 at *
  generalize mx1 s0 s1 s2 s3 * mx1 s0 s1 s2 s3 = y1 at *
  generalize rndV (mx2 s0 s1 s2 s3) 30 * rndV (mx2 s0 s1 s2 s3) 30 = x2 at *
  generalize mx2 s0 s1 s2 s3 * mx2 s0 s1 s2 s3 = y2 at *
  generalize rndV (x0 + x1 + x2) 30 = z at *
  clear e0 e1 e2 e3 e4 e5 e6 e7 e8 b0 b1 b2 b3 b4 b5 b6 b7 b8 g1 g2
  omega
theorem rs_01 {s0 s1 s2 s3 : Int} (h : UnitQ s0 s1 s2 s3) : (-30 ≤ rs01 s0 s1 s2 s3 ∧ rs01 s0 s1 s2 s3 ≤ 30) ∧ ∀ h', rH01 h' s0 s1 s2 s3 = h' := by
  obtain ⟨e0, e1, e2, e3, e4, e5, e6, e7, e8, -⟩ := rm_eq h.ha h.hb h.hc h.hd
  obtain ⟨b0, b1, b2, b3, b4, b5, b6, b7, b8⟩ := mx_bd h.ha h.hb h.hc h.hd
  have d : mx0 s0 s1 s2 s3 * mx3 s0 s1 s2 s3 + mx1 s0 s1 s2 s3 * mx4 s0 s1 s2 s3 + mx2 s0 s1 s2 s3 * mx5 s0 s1 s2 s3 = 0 := by unfold mx0 mx1 mx2 mx3 mx4 mx5; grind
  unfold rs01 rH01 rh01
  rw [e0, e1, e2, e3, e4, e5]
  have t0 := rowt (rn_rnd (mx0 s0 s1 s2 s3)) (rn_rnd (mx3 s0 s1 s2 s3)) b0 b3
  have t1 := rowt (rn_rnd (mx1 s0 s1 s2 s3)) (rn_rnd (mx4 s0 s1 s2 s3)) b1 b4
  have t2 := rowt (rn_rnd (mx2 s0 s1 s2 s3)) (rn_rnd (mx5 s0 s1 s2 s3)) b2 b5
  obtain ⟨g1, g2⟩ := dotO3 (w := rndV (mx0 s0 s1 s2 s3) 30 * rndV (mx3 s0 s1 s2 s3) 30 + rndV (mx1 s0 s1 s2 s3) 30 * rndV (mx4 s0 s1 s2 s3) 30 + rndV (mx2 s0 s1 s2 s3) 30 * rndV (mx5 s0 s1 s2 s3) 30) (rn_sm (rn_rnd _) b0) (rn_sm (rn_rnd _) b1) (rn_sm (rn_rnd _) b2) (rn_sm (rn_rnd _) b3) (rn_sm (rn_rnd _) b4) (rn_sm (rn_rnd _) b5) (by omega)
  rw [g1, g2]
  have r := rn_rnd (rndV (mx0 s0 s1 s2 s3) 30 * rndV (mx3 s0 s1 s2 s3) 30 + rndV (mx1 s0 s1 s2 s3) 30 * rndV (mx4 s0 s1 s2 s3) 30 + rndV (mx2 s0 s1 s2 s3) 30 * rndV (mx5 s0 s1 s2 s3) 30)
  unfold RN at r
  refine ⟨?_, fun h => by simp⟩
  generalize rndV (mx0 s0 s1 s2 s3) 30 * rndV (mx3 s0 s1 s2 s3) 30 = x0 at *
  generalize mx0 s0 s1 s2 s3 * mx3 s0 s1 s2 s3 = y0 at *
  generalize rndV (mx1 s0 s1 s2 s3) 30 * rndV (mx4 s0 s1 s2 s3) 30 = x1 at *
  generalize mx1 s0 s1 s2 s3 * mx4 s0 s1 s2 s3 = y1 at *
  generalize rndV (mx2 s0 s1 s2 s3) 30 * rndV (mx5 s0 s1 s2 s3) 30 = x2 at *
  generalize mx2 s0 s1 s2 s3 * mx5 s0 s1 s2 s3 = y2 at *
  generalize rndV (x0 + x1 + x2) 30 = z at *
  clear e0 e1 e2 e3 e4 e5 e6 e7 e8 b0 b1 b2 b3 b4 b5 b6 b7 b8 g1 g2
  omega
theorem rs_02 {s0 s1 s2 s3 : Int} (h : UnitQ s0 s1 s2 s3) : (-30 ≤ rs02 s0 s1 s2 s3 ∧ rs02 s0 s1 s2 s3 ≤ 30) ∧ ∀ h', rH02 h' s0 s1 s2 s3 = h' := by
  obtain ⟨e0, e1, e2, e3, e4, e5, e6, e7, e8, -⟩ := rm_eq h.ha h.hb h.hc h.hd
  obtain ⟨b0, b1, b2, b3, b4, b5, b6, b7, b8⟩ := mx_bd h.ha h.hb h.hc h.hd
  have d : mx0 s0 s1 s2 s3 * mx6 s0 s1 s2 s3 + mx1 s0 s1 s2 s3 * mx7 s0 s1 s2 s3 + mx2 s0 s1 s2 s3 * mx8 s0 s1 s2 s3 = 0 := by unfold mx0 mx1 mx2 mx6 mx7 mx8; grind
  unfold rs02 rH02 rh02
  rw [e0, e1, e2, e6, e7, e8]
  have t0 := rowt (rn_rnd (mx0 s0 s1 s2 s3)) (rn_rnd (mx6 s0 s1 s2 s3)) b0 b6
  have t1 := rowt (rn_rnd (mx1 s0 s1 s2 s3)) (rn_rnd (mx7 s0 s1 s2 s3)) b1 b7
  have t2 := rowt (rn_rnd (mx2 s0 s1 s2 s3)) (rn_rnd (mx8 s0 s1 s2 s3)) b2 b8
  obtain ⟨g1, g2⟩ := dotO3 (w := rndV (mx0 s0 s1 s2 s3) 30 * rndV (mx6 s0 s1 s2 s3) 30 + rndV (mx1 s0 s1 s2 s3) 30 * rndV (mx7 s0 s1 s2 s3) 30 + rndV (mx2 s0 s1 s2 s3) 30 * rndV (mx8 s0 s1 s2 s3) 30) (rn_sm (rn_rnd _) b0) (rn_sm (rn_rnd _) b1) (rn_sm (rn_rnd _) b2) (rn_sm (rn_rnd _) b6) (rn_sm (rn_rnd _) b7) (rn_sm (rn_rnd _) b8) (by omega)
  rw [g1, g2]
  have r := rn_rnd (rndV (mx0 s0 s1 s2 s3) 30 * rndV (mx6 s0 s1 s2 s3) 30 + rndV (mx1 s0 s1 s2 s3) 30 * rndV (mx7 s0 s1 s2 s3) 30 + rndV (mx2 s0 s1 s2 s3) 30 * rndV (mx8 s0 s1 s2 s3) 30)
  unfold RN at r
  refine ⟨?_, fun h => by simp⟩
  generalize rndV (mx0 s0 s1 s2 s3) 30 * rndV (mx6 s0 s1 s2 s3) 30 = x0 at *
  generalize mx0 s0 s1 s2 s3 * mx6 s0 s1 s2 s3 = y0 at *
  generalize rndV (mx1 s0 s1 s2 s3) 30 * rndV (mx7 s0 s1 s2 s3) 30 = x1 at *
  generalize mx1 s0 s1 s2 s3 * mx7 s0 s1 s2 s3 = y1 at *
  generalize rndV (mx2 s0 s1 s2 s3) 30 * rndV (mx8 s0 s1 s2 s3) 30 = x2 at *
  generalize mx2 s0 s1 s2 s3 * mx8 s0 s1 s2 s3 = y2 at *
  generalize rndV (x0 + x1 + x2) 30 = z at *
  clear e0 e1 e2 e3 e4 e5 e6 e7 e8 b0 b1 b2 b3 b4 b5 b6 b7 b8 g1 g2
  omega
theorem rs_10 {s0 s1 s2 s3 : Int} (h : UnitQ s0 s1 s2 s3) : (-30 ≤ rs10 s0 s1 s2 s3 ∧ rs10 s0 s1 s2 s3 ≤ 30) ∧ ∀ h', rH10 h' s0 s1 s2 s3 = h' := by
  obtain ⟨e0, e1, e2, e3, e4, e5, e6, e7, e8, -⟩ := rm_eq h.ha h.hb h.hc h.hd
  obtain ⟨b0, b1, b2, b3, b4, b5, b6, b7, b8⟩ := mx_bd h.ha h.hb h.hc h.hd
  have d : mx3 s0 s1 s2 s3 * mx0 s0 s1 s2 s3 + mx4 s0 s1 s2 s3 * mx1 s0 s1 s2 s3 + mx5 s0 s1 s2 s3 * mx2 s0 s1 s2 s3 = 0 := by unfold mx0 mx1 mx2 mx3 mx4 mx5; grind
  unfold rs10 rH10 rh10
  rw [e0, e1, e2, e3, e4, e5]
  have t0 := rowt (rn_rnd (mx3 s0 s1 s2 s3)) (rn_rnd (mx0 s0 s1 s2 s3)) b3 b0
  have t1 := rowt (rn_rnd (mx4 s0 s1 s2 s3)) (rn_rnd (mx1 s0 s1 s2 s3)) b4 b1
  have t2 := rowt (rn_rnd (mx5 s0 s1 s2 s3)) (rn_rnd (mx2 s0 s1 s2 s3)) b5 b2
  obtain ⟨g1, g2⟩ := dotO3 (w := rndV (mx3 s0 s1 s2 s3) 30 * rndV (mx0 s0 s1 s2 s3) 30 + rndV (mx4 s0 s1 s2 s3) 30 * rndV (mx1 s0 s1 s2 s3) 30 + rndV (mx5 s0 s1 s2 s3) 30 * rndV (mx2 s0 s1 s2 s3) 30) (rn_sm (rn_rnd _) b3) (rn_sm (rn_rnd _) b4) (rn_sm (rn_rnd _) b5) (rn_sm (rn_rnd _) b0) (rn_sm (rn_rnd _) b1) (rn_sm (rn_rnd _) b2) (by omega)
  rw [g1, g2]
  have r := rn_rnd (rndV (mx3 s0 s1 s2 s3) 30 * rndV (mx0 s0 s1 s2 s3) 30 + rndV (mx4 s0 s1 s2 s3) 30 * rndV (mx1 s0 s1 s2 s3) 30 + rndV (mx5 s0 s1 s2 s3) 30 * rndV (mx2 s0 s1 s2 s3) 30)
  unfold RN at r
  refine ⟨?_, fun h => by simp⟩
  generalize rndV (mx3 s0 s1 s2 s3) 30 * rndV (mx0 s0 s1 s2 s3) 30 = x0 at *
  generalize mx3 s0 s1 s2 s3 * mx0 s0 s1 s2 s3 = y0 at *
  generalize rndV (mx4 s0 s1 s2 s3) 30 * rndV (mx1 s0 s1 s2 s3) 30 = x1 at *
  generalize mx4 s0 s1 s2 s3 * mx1 s0 s1 s2 s3 = y1 at *
  generalize rndV (mx5 s0 s1 s2 s3) 30 * rndV (mx2 s0 s1 s2 s3) 30 = x2 at *
  generalize mx5 s0 s1 s2 s3 * mx2 s0 s1 s2 s3 = y2 at *
  generalize rndV (x0 + x1 + x2) 30 = z at *
  clear e0 e1 e2 e3 e4 e5 e6 e7 e8 b0 b1 b2 b3 b4 b5 b6 b7 b8 g1 g2
  omega
theorem rs_11 {s0 s1 s2 s3 : Int} (h : UnitQ s0 s1 s2 s3) : (1073741824 - 30 ≤ rs11 s0 s1 s2 s3 ∧ rs11 s0 s1 s2 s3 ≤ 1073741824 + 30) ∧ ∀ h', rH11 h' s0 s1 s2 s3 = h' := by
  obtain ⟨e0, e1, e2, e3, e4, e5, e6, e7, e8, -⟩ := rm_eq h.ha h.hb h.hc h.hd
  obtain ⟨b0, b1, b2, b3, b4, b5, b6, b7, b8⟩ := mx_bd h.ha h.hb h.hc h.hd
  have d : mx3 s0 s1 s2 s3 * mx3 s0 s1 s2 s3 + mx4 s0 s1 s2 s3 * mx4 s0 s1 s2 s3 + mx5 s0 s1 s2 s3 * mx5 s0 s1 s2 s3 = n4 s0 s1 s2 s3 * n4 s0 s1 s2 s3 := by unfold mx3 mx4 mx5 n4; grind
  have hn := h.hn
  unfold nearU at hn
  have up : n4 s0 s1 s2 s3 * n4 s0 s1 s2 s3 ≤ 1152921508364943360 * 1152921508364943360 := Int.mul_le_mul (by omega) (by omega) (by omega) (by omega)
  have lo : 1152921500848750592 * 1152921500848750592 ≤ n4 s0 s1 s2 s3 * n4 s0 s1 s2 s3 := Int.mul_le_mul (by omega) (by omega) (by omega) (by omega)
  unfold rs11 rH11 rh11
  rw [e3, e4, e5]
  have t0 := rowt (rn_rnd (mx3 s0 s1 s2 s3)) (rn_rnd (mx3 s0 s1 s2 s3)) b3 b3
  have t1 := rowt (rn_rnd (mx4 s0 s1 s2 s3)) (rn_rnd (mx4 s0 s1 s2 s3)) b4 b4
  have t2 := rowt (rn_rnd (mx5 s0 s1 s2 s3)) (rn_rnd (mx5 s0 s1 s2 s3)) b5 b5
  obtain ⟨g1, g2⟩ := dotO3 (w := rndV (mx3 s0 s1 s2 s3) 30 * rndV (mx3 s0 s1 s2 s3) 30 + rndV (mx4 s0 s1 s2 s3) 30 * rndV (mx4 s0 s1 s2 s3) 30 + rndV (mx5 s0 s1 s2 s3) 30 * rndV (mx5 s0 s1 s2 s3) 30) (rn_sm (rn_rnd _) b3) (rn_sm (rn_rnd _) b4) (rn_sm (rn_rnd _) b5) (rn_sm (rn_rnd _) b3) (rn_sm (rn_rnd _) b4) (rn_sm (rn_rnd _) b5) (by omega)
  rw [g1, g2]
  have r := rn_rnd (rndV (mx3 s0 s1 s2 s3) 30 * rndV (mx3 s0 s1 s2 s3) 30 + rndV (mx4 s0 s1 s2 s3) 30 * rndV (mx4 s0 s1 s2 s3) 30 + rndV (mx5 s0 s1 s2 s3) 30 * rndV (mx5 s0 s1 s2 s3) 30)
  unfold RN at r
  refine ⟨?_, fun h => by simp⟩
  generalize n4 s0 s1 s2 s3 * n4 s0 s1 s2 s3 = D at *
  generalize rndV (mx3 s0 s1 s2 s3) 30 * rndV (mx3 s0 s1 s2 s3) 30 = x0 at *
  generalize mx3 s0 s1 s2 s3 * mx3 s0 s1 s2 s3 = y0 at *
  generalize rndV (mx4 s0 s1 s2 s3) 30 * rndV (mx4 s0 s1 s2 s3) 30 = x1 at *
  generalize mx4 s0 s1 s2 s3 * mx4 s0 s1 s2 s3 = y1 at *
  generalize rndV (mx5 s0 s1 s2 s3) 30 * rndV (mx5 s0 s1 s2 s3) 30 = x2 at *
  generalize mx5 s0 s1 s2 s3 * mx5 s0 s1 s2 s3 = y2 at *
  generalize rndV (x0 + x1 + x2) 30 = z at *
  clear e0 e1 e2 e3 e4 e5 e6 e7 e8 b0 b1 b2 b3 b4 b5 b6 b7 b8 g1 g2
  omega
theorem rs_12 {s0 s1 s2 s3 : Int} (h : UnitQ s0 s1 s2 s3) : (-30 ≤ rs12 s0 s1 s2 s3 ∧ rs12 s0 s1 s2 s3 ≤ 30) ∧ ∀ h', rH12 h' s0 s1 s2 s3 = h' := by
  obtain ⟨e0, e1, e2, e3, e4, e5, e6, e7, e8, -⟩ := rm_eq h.ha h.hb h.hc h.hd
  obtain ⟨b0, b1, b2, b3, b4, b5, b6, b7, b8⟩ := mx_bd h.ha h.hb h.hc h.hd
  have d : mx3 s0 s1 s2 s3 * mx6 s0 s1 s2 s3 + mx4 s0 s1 s2 s3 * mx7 s0 s1 s2 s3 + mx5 s0 s1 s2 s3 * mx8 s0 s1 s2 s3 = 0 := by unfold mx3 mx4 mx5 mx6 mx7 mx8; grind
  unfold rs12 rH12 rh12
  rw [e3, e4, e5, e6, e7, e8]
  have t0 := rowt (rn_rnd (mx3 s0 s1 s2 s3)) (rn_rnd (mx6 s0 s1 s2 s3)) b3 b6
  have t1 := rowt (rn_rnd (mx4 s0 s1 s2 s3)) (rn_rnd (mx7 s0 s1 s2 s3)) b4 b7
  have t2 := rowt (rn_rnd (mx5 s0 s1 s2 s3)) (rn_rnd (mx8 s0 s1 s2 s3)) b5 b8
  obtain ⟨g1, g2⟩ := dotO3 (w := rndV (mx3 s0 s1 s2 s3) 30 * rndV (mx6 s0 s1 s2 s3) 30 + rndV (mx4 s0 s1 s2 s3) 30 * rndV (mx7 s0 s1 s2 s3) 30 + rndV (mx5 s0 s1 s2 s3) 30 * rndV (mx8 s0 s1 s2 s3) 30) (rn_sm (rn_rnd _) b3) (rn_sm (rn_rnd _) b4) (rn_sm (rn_rnd _) b5) (rn_sm (rn_rnd _) b6) (rn_sm (rn_rnd _) b7) (rn_sm (rn_rnd _) b8) (by omega)
  rw [g1, g2]
  have r := rn_rnd (rndV (mx3 s0 s1 s2 s3) 30 * rndV (mx6 s0 s1 s2 s3) 30 + rndV (mx4 s0 s1 s2 s3) 30 * rndV (mx7 s0 s1 s2 s3) 30 + rndV (mx5 s0 s1 s2 s3) 30 * rndV (mx8 s0 s1 s2 s3) 30)
  unfold RN at r
  refine ⟨?_, fun h => by simp⟩
  generalize rndV (mx3 s0 s1 s2 s3) 30 * rndV (mx6 s0 s1 s2 s3) 30 = x0 at *
  generalize mx3 s0 s1 s2 s3 * mx6 s0 s1 s2 s3 = y0 at *
  generalize rndV (mx4 s0 s1 s2 s3) 30 * rndV (mx7 s0 s1 s2 s3) 30 = x1 at *
  generalize mx4 s0 s1 s2 s3 * mx7 s0 s1 s2 s3 = y1 at *
  generalize rndV (mx5 s0 s1 s2 s3) 30 * rndV (mx8 s0 s1 s2 s3) 30 = x2 at *
  generalize mx5 s0 s1 s2 s3 * mx8 s0 s1 s2 s3 = y2 at *
  generalize rndV (x0 + x1 + x2) 30 = z at *
  clear e0 e1 e2 e3 e4 e5 e6 e7 e8 b0 b1 b2 b3 b4 b5 b6 b7 b8 g1 g2
  omega
theorem rs_20 {s0 s1 s2 s3 : Int} (h : UnitQ s0 s1 s2 s3) : (-30 ≤ rs20 s0 s1 s2 s3 ∧ rs20 s0 s1 s2 s3 ≤ 30) ∧ ∀ h', rH20 h' s0 s1 s2 s3 = h' := by
  obtain ⟨e0, e1, e2, e3, e4, e5, e6, e7, e8, -⟩ := rm_eq h.ha h.hb h.hc h.hd
  obtain ⟨b0, b1, b2, b3, b4, b5, b6, b7, b8⟩ := mx_bd h.ha h.hb h.hc h.hd
  have d : mx6 s0 s1 s2 s3 * mx0 s0 s1 s2 s3 + mx7 s0 s1 s2 s3 * mx1 s0 s1 s2 s3 + mx8 s0 s1 s2 s3 * mx2 s0 s1 s2 s3 = 0 := by unfold mx0 mx1 mx2 mx6 mx7 mx8; grind
  unfold rs20 rH20 rh20
  rw [e0, e1, e2, e6, e7, e8]
  have t0 := rowt (rn_rnd (mx6 s0 s1 s2 s3)) (rn_rnd (mx0 s0 s1 s2 s3)) b6 b0
  have t1 := rowt (rn_rnd (mx7 s0 s1 s2 s3)) (rn_rnd (mx1 s0 s1 s2 s3)) b7 b1
  have t2 := rowt (rn_rnd (mx8 s0 s1 s2 s3)) (rn_rnd (mx2 s0 s1 s2 s3)) b8 b2
  obtain ⟨g1, g2⟩ := dotO3 (w := rndV (mx6 s0 s1 s2 s3) 30 * rndV (mx0 s0 s1 s2 s3) 30 + rndV (mx7 s0 s1 s2 s3) 30 * rndV (mx1 s0 s1 s2 s3) 30 + rndV (mx8 s0 s1 s2 s3) 30 * rndV (mx2 s0 s1 s2 s3) 30) (rn_sm (rn_rnd _) b6) (rn_sm (rn_rnd _) b7) (rn_sm (rn_rnd _) b8) (rn_sm (rn_rnd _) b0) (rn_sm (rn_rnd _) b1) (rn_sm (rn_rnd _) b2) (by omega)
  rw [g1, g2]
  have r := rn_rnd (rndV (mx6 s0 s1 s2 s3) 30 * rndV (mx0 s0 s1 s2 s3) 30 + rndV (mx7 s0 s1 s2 s3) 30 * rndV (mx1 s0 s1 s2 s3) 30 + rndV (mx8 s0 s1 s2 s3) 30 * rndV (mx2 s0 s1 s2 s3) 30)
  unfold RN at r
  refine ⟨?_, fun h => by simp⟩
  generalize rndV (mx6 s0 s1 s2 s3) 30 * rndV (mx0 s0 s1 s2 s3) 30 = x0 at *
  generalize mx6 s0 s1 s2 s3 * mx0 s0 s1 s2 s3 = y0 at *
  generalize rndV (mx7 s0 s1 s2 s3) 30 * rndV (mx1 s0 s1 s2 s3) 30 = x1 at *
  generalize mx7 s0 s1 s2 s3 * mx1 s0 s1 s2 s3 = y1 at *
  generalize rndV (mx8 s0 s1 s2 s3) 30 * rndV (mx2 s0 s1 s2 s3) 30 = x2 at *
  generalize mx8 s0 s1 s2 s3 * mx2 s0 s1 s2 s3 = y2 at *
  generalize rndV (x0 + x1 + x2) 30 = z at *
  clear e0 e1 e2 e3 e4 e5 e6 e7 e8 b0 b1 b2 b3 b4 b5 b6 b7 b8 g1 g2
  omega
theorem rs_21 {s0 s1 s2 s3 : Int} (h : UnitQ s0 s1 s2 s3) : (-30 ≤ rs21 s0 s1 s2 s3 ∧ rs21 s0 s1 s2 s3 ≤ 30) ∧ ∀ h', rH21 h' s0 s1 s2 s3 = h' := by
  obtain ⟨e0, e1, e2, e3, e4, e5, e6, e7, e8, -⟩ := rm_eq h.ha h.hb h.hc h.hd
  obtain ⟨b0, b1, b2, b3, b4, b5, b6, b7, b8⟩ := mx_bd h.ha h.hb h.hc h.hd
  have d : mx6 s0 s1 s2 s3 * mx3 s0 s1 s2 s3 + mx7 s0 s1 s2 s3 * mx4 s0 s1 s2 s3 + mx8 s0 s1 s2 s3 * mx5 s0 s1 s2 s3 = 0 := by unfold mx3 mx4 mx5 mx6 mx7 mx8; grind
  unfold rs21 rH21 rh21
  rw [e3, e4, e5, e6, e7, e8]
  have t0 := rowt (rn_rnd (mx6 s0 s1 s2 s3)) (rn_rnd (mx3 s0 s1 s2 s3)) b6 b3
  have t1 := rowt (rn_rnd (mx7 s0 s1 s2 s3)) (rn_rnd (mx4 s0 s1 s2 s3)) b7 b4
  have t2 := rowt (rn_rnd (mx8 s0 s1 s2 s3)) (rn_rnd (mx5 s0 s1 s2 s3)) b8 b5
  obtain ⟨g1, g2⟩ := dotO3 (w := rndV (mx6 s0 s1 s2 s3) 30 * rndV (mx3 s0 s1 s2 s3) 30 + rndV (mx7 s0 s1 s2 s3) 30 * rndV (mx4 s0 s1 s2 s3) 30 + rndV (mx8 s0 s1 s2 s3) 30 * rndV (mx5 s0 s1 s2 s3) 30) (rn_sm (rn_rnd _) b6) (rn_sm (rn_rnd _) b7) (rn_sm (rn_rnd _) b8) (rn_sm (rn_rnd _) b3) (rn_sm (rn_rnd _) b4) (rn_sm (rn_rnd _) b5) (by omega)
  rw [g1, g2]
  have r := rn_rnd (rndV (mx6 s0 s1 s2 s3) 30 * rndV (mx3 s0 s1 s2 s3) 30 + rndV (mx7 s0 s1 s2 s3) 30 * rndV (mx4 s0 s1 s2 s3) 30 + rndV (mx8 s0 s1 s2 s3) 30 * rndV (mx5 s0 s1 s2 s3) 30)
  unfold RN at r
  refine ⟨?_, fun h => by simp⟩
  generalize rndV (mx6 s0 s1 s2 s3) 30 * rndV (mx3 s0 s1 s2 s3) 30 = x0 at *
  generalize mx6 s0 s1 s2 s3 * mx3 s0 s1 s2 s3 = y0 at *
  generalize rndV (mx7 s0 s1 s2 s3) 30 * rndV (mx4 s0 s1 s2 s3) 30 = x1 at *
  generalize mx7 s0 s1 s2 s3 * mx4 s0 s1 s2 s3 = y1 at *
  generalize rndV (mx8 s0 s1 s2 s3) 30 * rndV (mx5 s0 s1 s2 s3) 30 = x2 at *
  generalize mx8 s0 s1 s2 s3 * mx5 s0 s1 s2 s3 = y2 at *
  generalize rndV (x0 + x1 + x2) 30 = z at *
  clear e0 e1 e2 e3 e4 e5 e6 e7 e8 b0 b1 b2 b3 b4 b5 b6 b7 b8 g1 g2
  omega
theorem rs_22 {s0 s1 s2 s3 : Int} (h : UnitQ s0 s1 s2 s3) : (1073741824 - 30 ≤ rs22 s0 s1 s2 s3 ∧ rs22 s0 s1 s2 s3 ≤ 1073741824 + 30) ∧ ∀ h', rH22 h' s0 s1 s2 s3 = h' := by
  obtain ⟨e0, e1, e2, e3, e4, e5, e6, e7, e8, -⟩ := rm_eq h.ha h.hb h.hc h.hd
  obtain ⟨b0, b1, b2, b3, b4, b5, b6, b7, b8⟩ := mx_bd h.ha h.hb h.hc h.hd
  have d : mx6 s0 s1 s2 s3 * mx6 s0 s1 s2 s3 + mx7 s0 s1 s2 s3 * mx7 s0 s1 s2 s3 + mx8 s0 s1 s2 s3 * mx8 s0 s1 s2 s3 = n4 s0 s1 s2 s3 * n4 s0 s1 s2 s3 := by unfold mx6 mx7 mx8 n4; grind
  have hn := h.hn
  unfold nearU at hn
  have up : n4 s0 s1 s2 s3 * n4 s0 s1 s2 s3 ≤ 1152921508364943360 * 1152921508364943360 := Int.mul_le_mul (by omega) (by omega) (by omega) (by omega)
  have lo : 1152921500848750592 * 1152921500848750592 ≤ n4 s0 s1 s2 s3 * n4 s0 s1 s2 s3 := Int.mul_le_mul (by omega) (by omega) (by omega) (by omega)
  unfold rs22 rH22 rh22
  rw [e6, e7, e8]
  have t0 := rowt (rn_rnd (mx6 s0 s1 s2 s3)) (rn_rnd (mx6 s0 s1 s2 s3)) b6 b6
  have t1 := rowt (rn_rnd (mx7 s0 s1 s2 s3)) (rn_rnd (mx7 s0 s1 s2 s3)) b7 b7
  have t2 := rowt (rn_rnd (mx8 s0 s1 s2 s3)) (rn_rnd (mx8 s0 s1 s2 s3)) b8 b8
  obtain ⟨g1, g2⟩ := dotO3 (w := rndV (mx6 s0 s1 s2 s3) 30 * rndV (mx6 s0 s1 s2 s3) 30 + rndV (mx7 s0 s1 s2 s3) 30 * rndV (mx7 s0 s1 s2 s3) 30 + rndV (mx8 s0 s1 s2 s3) 30 * rndV (mx8 s0 s1 s2 s3) 30) (rn_sm (rn_rnd _) b6) (rn_sm (rn_rnd _) b7) (rn_sm (rn_rnd _) b8) (rn_sm (rn_rnd _) b6) (rn_sm (rn_rnd _) b7) (rn_sm (rn_rnd _) b8) (by omega)
  rw [g1, g2]
  have r := rn_rnd (rndV (mx6 s0 s1 s2 s3) 30 * rndV (mx6 s0 s1 s2 s3) 30 + rndV (mx7 s0 s1 s2 s3) 30 * rndV (mx7 s0 s1 s2 s3) 30 + rndV (mx8 s0 s1 s2 s3) 30 * rndV (mx8 s0 s1 s2 s3) 30)
  unfold RN at r
  refine ⟨?_, fun h => by simp⟩
  generalize n4 s0 s1 s2 s3 * n4 s0 s1 s2 s3 = D at *
  generalize rndV (mx6 s0 s1 s2 s3) 30 * rndV (mx6 s0 s1 s2 s3) 30 = x0 at *
  generalize mx6 s0 s1 s2 s3 * mx6 s0 s1 s2 s3 = y0 at *
  generalize rndV (mx7 s0 s1 s2 s3) 30 * rndV (mx7 s0 s1 s2 s3) 30 = x1 at *
  generalize mx7 s0 s1 s2 s3 * mx7 s0 s1 s2 s3 = y1 at *
  generalize rndV (mx8 s0 s1 s2 s3) 30 * rndV (mx8 s0 s1 s2 s3) 30 = x2 at *
  generalize mx8 s0 s1 s2 s3 * mx8 s0 s1 s2 s3 = y2 at *
  generalize rndV (x0 + x1 + x2) 30 = z at *
  clear e0 e1 e2 e3 e4 e5 e6 e7 e8 b0 b1 b2 b3 b4 b5 b6 b7 b8 g1 g2
  omega
theorem wr_64 {x : Int} (h : 1073741824 - 30 ≤ x ∧ x ≤ 1073741824 + 30) : decide (wr IntKind.i64 (x - 1073741824) > 64) = false ∧ decide (wr IntKind.i64 (x - 1073741824) < -64) = false := by
  rw [wr_i, w64_in (by omega) (by omega)]
  simp
  omega
theorem s_64 {x : Int} (h : -30 ≤ x ∧ x ≤ 30) : decide (x > 64) = false ∧ decide (x < -64) = false := by simp; omega
theorem rq_all {u0 u1 u2 u3 : Int} (h : UnitQ u0 u1 u2 u3) : rqF u0 u1 u2 u3 = false ∧ rqE u0 u1 u2 u3 = true := by
  have h0 := one.sm h.ha
  have h1 := one.sm h.hb
  have h2 := one.sm h.hc
  have h3 := one.sm h.hd
  obtain ⟨e0, e1, e2, e3, e4, e5, e6, e7, e8, e9⟩ := rm_eq h.ha h.hb h.hc h.hd
  obtain ⟨f0, f1, f2, f3, f4, f5, f6, f7, f8, f9⟩ := rm_eq (one.neg h.ha) (one.neg h.hb) (one.neg h.hc) (one.neg h.hd)
  unfold rqF rqE
  rw [wneg h0.inS, wneg h1.inS, wneg h2.inS, wneg h3.inS, h0.neg.sat.1, h1.neg.sat.1, h2.neg.sat.1, h3.neg.sat.1, h0.neg.sat.2, h1.neg.sat.2, h2.neg.sat.2, h3.neg.sat.2, h0.sat.1, h1.sat.1, h2.sat.1, h3.sat.1, h0.sat.2, h1.sat.2, h2.sat.2, h3.sat.2, f9,
    (rs_22 h).2, (rs_21 h).2, (rs_20 h).2, (rs_12 h).2, (rs_11 h).2, (rs_10 h).2, (rs_02 h).2, (rs_01 h).2, (rs_00 h).2, e9, e0, e1, e2, e3, e4, e5, e6, e7, e8, f0, f1, f2, f3, f4, f5, f6, f7, f8]
  have m0 : mx0 (-u0) (-u1) (-u2) (-u3) = mx0 u0 u1 u2 u3 := by unfold mx0; grind
  have m1 : mx1 (-u0) (-u1) (-u2) (-u3) = mx1 u0 u1 u2 u3 := by unfold mx1; grind
  have m2 : mx2 (-u0) (-u1) (-u2) (-u3) = mx2 u0 u1 u2 u3 := by unfold mx2; grind
  have m3 : mx3 (-u0) (-u1) (-u2) (-u3) = mx3 u0 u1 u2 u3 := by unfold mx3; grind
  have m4 : mx4 (-u0) (-u1) (-u2) (-u3) = mx4 u0 u1 u2 u3 := by unfold mx4; grind
  have m5 : mx5 (-u0) (-u1) (-u2) (-u3) = mx5 u0 u1 u2 u3 := by unfold mx5; grind
  have m6 : mx6 (-u0) (-u1) (-u2) (-u3) = mx6 u0 u1 u2 u3 := by unfold mx6; grind
  have m7 : mx7 (-u0) (-u1) (-u2) (-u3) = mx7 u0 u1 u2 u3 := by unfold mx7; grind
  have m8 : mx8 (-u0) (-u1) (-u2) (-u3) = mx8 u0 u1 u2 u3 := by unfold mx8; grind
  rw [m0, m1, m2, m3, m4, m5, m6, m7, m8]
  exact ⟨by simp, by simp⟩
theorem lawRotSquares (a0 a1 a2 a3 : Int) (w : World) :
    Calls Try.prog 13 ([.v (.agg [.int .i64 a0, .int .i64 a1, .int .i64 a2, .int .i64 a3])].map (LV.den E0)).toArray w fun e w' => e = .returned (.bool true) ∧ Below w.heap.size w w' := by
  have h := unit_ok a0 a1 a2 a3
  obtain ⟨hf, he⟩ := rq_all h
  refine law_true sound46 (rqR a0 a1 a2 a3) (by rw [hf]; rfl) ?_ rfl w
  rw [he, (one.sm h.ha).sat.1, (one.sm h.hb).sat.1, (one.sm h.hc).sat.1, (one.sm h.hd).sat.1, (wr_64 (rs_00 h).1).1, (wr_64 (rs_00 h).1).2, (s_64 (rs_01 h).1).1, (s_64 (rs_01 h).1).2, (s_64 (rs_02 h).1).1, (s_64 (rs_02 h).1).2, (s_64 (rs_10 h).1).1, (s_64 (rs_10 h).1).2, (wr_64 (rs_11 h).1).1, (wr_64 (rs_11 h).1).2, (s_64 (rs_12 h).1).1, (s_64 (rs_12 h).1).2, (s_64 (rs_20 h).1).1, (s_64 (rs_20 h).1).2, (s_64 (rs_21 h).1).1, (s_64 (rs_21 h).1).2, (wr_64 (rs_22 h).1).1, (wr_64 (rs_22 h).1).2]
  simp
-- @@end
end Go.Proofs.Ythfanchjkkeejaa

/- Opening an array of numbers that a law is handed (the seventh form's data). -/
namespace Go.Lr
open Go.ChangeShapes Go.WideShapes Go.ChangeAt Go.RowKit

section
variable {H : Type} {enc : TypeId × Value → H} {P : Program} {k e : TypeId} {W : World} {base : Nat} {sp : Nat → Bool} {held : Bool}

theorem mapM_ints (he : P.underlying e = some (.int .i64)) {m : Nat} {cs : List Value} : ∀ (L : List Nat) (xs : List (DataW H × List MemPlace)),
    L.mapM (fun i => DataW.trod enc P W base sp held m e ((cs.drop (i * 1)).take 1)) = some xs →
    ∃ zs : List Int, zs.length = L.length ∧ xs = zs.map (fun z => (.lit (.int .i64 z), [])) ∧ (∀ z ∈ zs, (Lit.int .i64 z).wf = true) ∧
      (∀ (j : Nat) (h : j < L.length) (h' : j < zs.length), (cs.drop (L[j] * 1)).take 1 = [.int .i64 zs[j]]) ∧
      ∀ (W' : World) (base' : Nat) (sp' : Nat → Bool), L.mapM (fun i => DataW.trod enc P W' base' sp' held m e ((cs.drop (i * 1)).take 1)) = some xs
  | [], xs, h => by
    simp at h
    subst h
    exact ⟨[], rfl, rfl, by simp, by simp, fun _ _ _ => rfl⟩
  | i :: L, xs, h => by
    rw [List.mapM_cons] at h
    simp only [bind, Option.bind_eq_some_iff, pure, Option.some.injEq] at h
    obtain ⟨y, hy, ys, hys, rfl⟩ := h
    obtain ⟨zs, h1, rfl, h2, h3, h4⟩ := mapM_ints he L ys hys
    obtain ⟨a, ea, rfl, wa⟩ := DataW.trod_int he hy
    refine ⟨a :: zs, by simp [h1], rfl, ?_, ?_, fun W' base' sp' => ?_⟩
    · intro z hz
      rcases List.mem_cons.1 hz with rfl | hz
      · exact wa
      · exact h2 z hz
    · intro j hj hj'
      cases j with
      | zero => exact ea
      | succ j => exact h3 j (by simpa using hj) (by simpa using hj')
    · rw [List.mapM_cons, h4 W' base' sp']
      have hw : DataW.trod enc P W' base' sp' held m e ((cs.drop (i * 1)).take 1) = some (.lit (.int .i64 a), []) := by
        rw [ea] at hy ⊢
        cases m with
        | zero => simp [DataW.trod] at hy
        | succ m => simp [DataW.trod, he, wa]
      rw [hw]
      rfl

theorem open_arr {n : Nat} (hk : P.underlying k = some (.array n e)) (he : P.underlying e = some (.int .i64)) (hc : P.cellsOf k = n) (hce : P.cellsOf e = 1) {r : Reach} {b0 : Nat} {v : Value} {d : DataW H} {ps : List MemPlace}
    (hval : Value.okWide P W r b0 k v) (hd : DataW.Trod enc P W base sp held k v d ps) :
    ∃ zs : List Int, zs.length = n ∧ v = .agg (zs.map (Value.int .i64)).toArray ∧ ps = [] ∧ (∀ z ∈ zs, (Lit.int .i64 z).wf = true) ∧ ∀ (W' : World) (base' : Nat) (sp' : Nat → Bool), DataW.Trod enc P W' base' sp' held k v d [] := by
  simp only [Value.okWide, hk] at hval
  obtain ⟨cs, rfl, hs, -⟩ := hval
  rw [hc] at hs
  obtain ⟨fuel, hf⟩ := hd
  cases fuel with
  | zero => simp [DataW.trod] at hf
  | succ m =>
    rw [DataW.trod_step] at hf
    unfold DataW.trodStep at hf
    simp only [hk, Value.cells, hc, hce] at hf
    have hl : cs.toList.length = n := by simpa using hs
    rw [if_pos hl] at hf
    simp only [Option.map_eq_some_iff] at hf
    obtain ⟨ys, hy, e1⟩ := hf
    obtain ⟨zs, h1, rfl, h2, h3, h4⟩ := mapM_ints he _ ys hy
    rw [List.length_range] at h1
    simp only [Prod.mk.injEq] at e1
    have hcs : cs.toList = zs.map (Value.int .i64) := by
      refine List.ext_getElem (by simp [hl, h1]) fun j hj hj' => ?_
      have h := h3 j (by simpa using (show j < n by omega)) (by omega)
      rw [List.getElem_range, Nat.mul_one] at h
      have h5 : ((cs.toList.drop j).take 1)[0]? = some (Value.int .i64 zs[j]) := by rw [h]; rfl
      rw [List.getElem?_take, if_pos (by decide), List.getElem?_drop, Nat.add_zero, List.getElem?_eq_getElem hj] at h5
      simpa using h5
    refine ⟨zs, h1, by rw [← hcs], by rw [← e1.2]; simp [List.flatMap_eq_nil_iff], h2, fun W' base' sp' => ⟨m + 1, ?_⟩⟩
    rw [DataW.trod_step]
    unfold DataW.trodStep
    simp only [hk, Value.cells, hc, hce]
    rw [if_pos hl, h4 W' base' sp']
    simp only [Option.map_some, Option.some.injEq, Prod.mk.injEq]
    exact ⟨e1.1, by simp [List.flatMap_eq_nil_iff]⟩
end
end Go.Lr

/- Opening a struct of numbers that a law is handed. -/
namespace Go.Lr
open Go.ChangeShapes Go.WideShapes Go.ChangeAt Go.RowKit

section
variable {H : Type} {enc : TypeId × Value → H} {P : Program} {held : Bool}

/-- A type of so many whole numbers of 64 bits, one after the other. -/
def PlainT (enc : TypeId × Value → H) (P : Program) (held : Bool) (t : TypeId) (n : Nat) : Prop :=
  P.cellsOf t = n ∧ ∀ (W : World) (base : Nat) (sp : Nat → Bool) (m : Nat) (cs : List Value) (x : DataW H × List MemPlace), DataW.trod enc P W base sp held m t cs = some x →
    ∃ zs : List Int, zs.length = n ∧ cs = zs.map (Value.int .i64) ∧ x.2 = [] ∧ (∀ z ∈ zs, (Lit.int .i64 z).wf = true) ∧ ∀ (W' : World) (base' : Nat) (sp' : Nat → Bool), DataW.trod enc P W' base' sp' held m t cs = some x

theorem plain_int {t : TypeId} (ht : P.underlying t = some (.int .i64)) (hc : P.cellsOf t = 1) : PlainT enc P held t 1 := by
  refine ⟨hc, fun W base sp m cs x h => ?_⟩
  obtain ⟨a, rfl, rfl, wa⟩ := DataW.trod_int ht h
  refine ⟨[a], rfl, rfl, rfl, by simpa using wa, fun W' base' sp' => ?_⟩
  cases m with
  | zero => simp [DataW.trod] at h
  | succ m => simp [DataW.trod, ht, wa]

theorem plain_struct2 {t : TypeId} {fs : Array Field} {f0 f1 : Field} {n0 n1 : Nat} (ht : P.underlying t = some (.struct fs)) (hfs : fs.toList = [f0, f1]) (h0 : f0.offset = 0) (h1 : f1.offset = n0)
    (p0 : PlainT enc P held f0.type n0) (p1 : PlainT enc P held f1.type n1) (hc : P.cellsOf t = n0 + n1) : PlainT enc P held t (n0 + n1) := by
  refine ⟨hc, fun W base sp m cs x h => ?_⟩
  obtain ⟨c0, q0⟩ := p0
  obtain ⟨c1, q1⟩ := p1
  cases m with
  | zero => simp [DataW.trod] at h
  | succ m =>
    rw [DataW.trod_step] at h
    unfold DataW.trodStep at h
    simp only [ht] at h
    split at h
    · rename_i hl
      rw [hc] at hl
      simp only [hfs, List.mapM_cons, List.mapM_nil, bind, pure, h0, h1, c0, c1, List.drop_zero, Option.map_eq_some_iff, Option.bind_eq_some_iff, Option.some.injEq] at h
      obtain ⟨xs, ⟨y0, g0, ys, ⟨y1, g1, r, rfl, rfl⟩, rfl⟩, rfl⟩ := h
      obtain ⟨z0, a1, a2, a3, a4, a5⟩ := q0 _ _ _ _ _ _ g0
      obtain ⟨z1, b1, b2, b3, b4, b5⟩ := q1 _ _ _ _ _ _ g1
      have hcs : cs = (z0 ++ z1).map (Value.int .i64) := by
        rw [List.map_append, ← a2, ← b2, List.take_of_length_le (l := cs.drop n0) (by rw [List.length_drop]; omega), List.take_append_drop]
      refine ⟨z0 ++ z1, by simp [a1, b1], hcs, by simp [a3, b3], ?_, fun W' base' sp' => ?_⟩
      · intro z hz
        rcases List.mem_append.1 hz with hz | hz
        · exact a4 z hz
        · exact b4 z hz
      · rw [DataW.trod_step]
        unfold DataW.trodStep
        simp only [ht]
        rw [if_pos (by rw [hc]; exact hl)]
        simp only [hfs, List.mapM_cons, List.mapM_nil, bind, pure, h0, h1, c0, c1, List.drop_zero, a5 W' base' sp', b5 W' base' sp', Option.bind_some, Option.map_some]
    · cases h

/-- The two fields of a struct: their types, their places. -/
def twoF (P : Program) (t : TypeId) : Option (TypeId × Nat × TypeId × Nat) :=
  match P.underlying t with
  | some (.struct fs) => match fs.toList with
    | [f0, f1] => some (f0.type, f0.offset, f1.type, f1.offset)
    | _ => none
  | _ => none
theorem plain_two {t t0 t1 : TypeId} {n0 n1 : Nat} (h : twoF P t = some (t0, 0, t1, n0)) (p0 : PlainT enc P held t0 n0) (p1 : PlainT enc P held t1 n1) (hc : P.cellsOf t = n0 + n1) : PlainT enc P held t (n0 + n1) := by
  unfold twoF at h
  split at h
  · rename_i fs hu
    split at h
    · rename_i f0 f1 hl
      simp only [Option.some.injEq, Prod.mk.injEq] at h
      obtain ⟨rfl, h0, rfl, h1⟩ := h
      exact plain_struct2 hu hl h0 h1 p0 p1 hc
    · cases h
  · cases h
def isStruct (P : Program) (t : TypeId) : Bool :=
  match P.underlying t with
  | some (.struct _) => true
  | _ => false
theorem isStruct_spec {t : TypeId} (h : isStruct P t = true) : ∃ fs, P.underlying t = some (.struct fs) := by
  unfold isStruct at h
  split at h
  · rename_i fs hu; exact ⟨fs, hu⟩
  · cases h

theorem open_plain {t : TypeId} {n : Nat} (hs : isStruct P t = true) (hp : PlainT enc P held t n) {W : World} {base : Nat} {sp : Nat → Bool} {r : Reach} {b0 : Nat} {v : Value} {d : DataW H} {ps : List MemPlace}
    (hval : Value.okWide P W r b0 t v) (hd : DataW.Trod enc P W base sp held t v d ps) :
    ∃ zs : List Int, zs.length = n ∧ v = .agg (zs.map (Value.int .i64)).toArray ∧ ps = [] ∧ (∀ z ∈ zs, (Lit.int .i64 z).wf = true) ∧ ∀ (W' : World) (base' : Nat) (sp' : Nat → Bool), DataW.Trod enc P W' base' sp' held t v d [] := by
  obtain ⟨fs, ht⟩ := isStruct_spec hs
  simp only [Value.okWide, ht] at hval
  obtain ⟨cs, rfl, hsz, -⟩ := hval
  obtain ⟨fuel, hf⟩ := hd
  obtain ⟨zs, h1, h2, h3, h4, h5⟩ := hp.2 _ _ _ _ _ _ hf
  simp only [Value.cells] at h2 h5
  simp only at h3
  subst h3
  exact ⟨zs, h1, by rw [← h2], rfl, h4, fun W' base' sp' => ⟨fuel, h5 W' base' sp'⟩⟩
end
end Go.Lr
