/- The run of FxKnown, in the evaluator. -/
import Derived.Test.YtjbikokffafdbaaLrBase
namespace Go.Proofs.Ytjbikokffafdbaa
open Go.Lr
theorem runFxKnown : (runF Try.prog S1 Zc 2000 6 [] [] 0 []).map (fun r => (r.1, r.2.2.2)) = some (B true, []) := by kernel_rfl
end Go.Proofs.Ytjbikokffafdbaa
