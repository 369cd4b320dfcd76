/- Joined texts. What each part proves stands ahead of it; no condition. -/
import Derived.Test.YtnabopepomjncaaLrM5
import Derived.Test.YtnabopepomjncaaLrM4

/- The law FxOps: its run, and why it answers true. -/
namespace Go.Proofs.Ytnabopepomjncaa
open Go.Lr Go.RowKit
set_option linter.unusedVariables false

theorem raQ {b c : Bool} {l : List (Bool × Bool)} {n : Nat} (h : b = c) (hl : ∀ d ∈ l, d.1 = d.2) : ∀ d ∈ ra n (b, c) l, d.1 = d.2 := ra_ok h hl _
theorem raZ : ∀ d ∈ ([] : List (Bool × Bool)), d.1 = d.2 := by simp
theorem bnn (x : Bool) : (!(x == x)) = false := by cases x <;> rfl
theorem bne_self (x : Int) : (x != x) = false := by simp
theorem foRun (a b d s : Int) : (runF Try.prog S74 Zl 4000 5 [I a, I b, I d, I s] [] 0 (nn 3 (ff 11 (nn 3 (ff 11 (nn 4 (ff 11 (nn 5 (ff 11 (nn 6 (ff 11 (nn 7 (ff 11 (nn 8 (ff 11 (nn 9 (ff 11 (nn 9 (ff 10 []))))))))))))))))))).map (fun r => (r.1, r.2.2.2)) = some (.v (.one (.bool true)), ra 10 (fabsV a != fabsV a, false) (ra 1 (!((false || faddH [a, b, d]) == (false || faddH [a, b, d])), false) (ra 10 (faddV [a, b, d] != faddV [a, b, d], false) (ra 2 (true, true) (ra 1 (!((false || mulDivH a b d) == (false || mulDivH a b d)), false) (ra 10 (mulDivV a b d != mulDivV a b d, false) (ra 1 (!((false || divPH a b s) == (false || divPH a b s)), false) (ra 10 (divPV a b s != divPV a b s, false) (ra 1 (!((false || mulH a b s) == (false || mulH a b s)), false) (ra 10 (mulV a b s != mulV a b s, false) (ra 1 (!((false || subH a b) == (false || subH a b)), false) (ra 10 (subV a b != subV a b, false) (ra 1 (!((false || faddH [a, b]) == (false || faddH [a, b])), false) (ra 10 (faddV [a, b] != faddV [a, b], false) (ra 1 (true, true) (ra 1 (!((false || satH a) == (false || satH a)), false) (ra 10 (satV a != satV a, false) (ra 1 (!((false || clampH a b d) == (false || clampH a b d)), false) (ra 10 (clampV a b d != clampV a b d, false) []))))))))))))))))))) := by kernel_rfl
theorem lawFxOps (a b d s : Int) (w : World) :
    Calls Try.prog 5 #[.int .i64 a, .int .i64 b, .int .i64 d, .int .i64 s] w fun e w' => e = .returned (.bool true) ∧ Below w.heap.size w w' :=
  law_of_run (args := [I a, I b, I d, I s]) sound74 (foRun a b d s) (raQ (n := 10) (bne_self _) (raQ (n := 1) (bnn _) (raQ (n := 10) (bne_self _) (raQ (n := 2) (rfl : true = true) (raQ (n := 1) (bnn _) (raQ (n := 10) (bne_self _) (raQ (n := 1) (bnn _) (raQ (n := 10) (bne_self _) (raQ (n := 1) (bnn _) (raQ (n := 10) (bne_self _) (raQ (n := 1) (bnn _) (raQ (n := 10) (bne_self _) (raQ (n := 1) (bnn _) (raQ (n := 10) (bne_self _) (raQ (n := 1) (rfl : true = true) (raQ (n := 1) (bnn _) (raQ (n := 10) (bne_self _) (raQ (n := 1) (bnn _) (raQ (n := 10) (bne_self _) raZ))))))))))))))))))) rfl rfl w
end Go.Proofs.Ytnabopepomjncaa
