/- This seat's program: what the evaluator leans on; math/bits' two that the model answers. -/
import Derived.Test.YtjbikokffafdbaaLrS16
import Derived.Test.YtjbikokffafdbaaProg
namespace Go.Proofs.Ytjbikokffafdbaa
open Go.Lr

theorem ngAll : (Try.prog.funcs.toList.all fun fn => fn.name != "runtime.NumGoroutine") = true := by kernel_rfl
theorem ng : ∀ (f : FuncId) (fn : Func), Try.prog.funcs[f]? = some fn → fn.name ≠ "runtime.NumGoroutine" := by
  intro f fn h
  have := List.all_eq_true.1 ngAll fn (by
    have h' : Try.prog.funcs.toList[f]? = some fn := by simpa using h
    exact List.mem_of_getElem? h')
  simpa using this
theorem mix : Try.prog.follows .mixedOrders = true := by kernel_rfl

theorem sumAdd64 : SumOK Try.prog 79 (pureSum addF) := add64_ok Try.func79 (by kernel_rfl) (by kernel_rfl) (by kernel_rfl) (by kernel_rfl)
theorem sumSub64 : SumOK Try.prog 84 (pureSum subF) := sub64_ok Try.func84 (by kernel_rfl) (by kernel_rfl) (by kernel_rfl) (by kernel_rfl)

def S0 : FuncId → Option Sum := more (more (fun _ => none) 79 (pureSum addF)) 84 (pureSum subF)
theorem sound0 : Sound Try.prog S0 := ((Sound.none mix ng).more sumAdd64).more sumSub64

/-- Closed runs: every number is known. -/
def Zc : Md := ⟨true, true, false⟩
/-- Runs of numbers that are not known; by the list; without cutting short. -/
def Zl : Md := ⟨false, true, false⟩
def Za : Md := ⟨false, true, true⟩
noncomputable def S1 : FuncId → Option Sum :=
  more (more (more (more (more (more (more S0 44 (autoP Try.prog S0 Zc 2000 44)) 64 (autoP Try.prog S0 Zc 2000 64)) 65 (autoP Try.prog S0 Zc 2000 65)) 67 (autoP Try.prog S0 Zc 2000 67))
    41 (autoP Try.prog S0 Zc 2000 41)) 27 (autoM Try.prog S0 Zc 2000 27)) 40 (autoM Try.prog S0 Zc 2000 40)
theorem sound1 : Sound Try.prog S1 :=
  ((((((sound0.more (autoP_ok sound0 (own_of sound0 Try.func44 (by kernel_rfl)))).more (autoP_ok sound0 (own_of sound0 Try.func64 (by kernel_rfl)))).more (autoP_ok sound0 (own_of sound0 Try.func65 (by kernel_rfl)))).more
    (autoP_ok sound0 (own_of sound0 Try.func67 (by kernel_rfl)))).more (autoP_ok sound0 (own_of sound0 Try.func41 (by kernel_rfl)))).more (autoM_ok sound0 (own_of sound0 Try.func27 (by kernel_rfl)))).more
    (autoM_ok sound0 (own_of sound0 Try.func40 (by kernel_rfl)))

def I (n : Int) : LV := .v (.one (.int .i64 n))
def B (b : Bool) : LV := .v (.one (.bool b))
end Go.Proofs.Ytjbikokffafdbaa
