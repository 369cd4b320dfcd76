/- The law RotSmall answers true, whatever it is handed (no condition). The frame of this text came from the kit's proof-skeleton tool, turned to arrays. -/
import Derived.Test.YtaebmggjhjobnaaRows
import Derived.WalkKit
import Derived.Test.YtaebmggjhjobnaaLrM6
import Derived.ProofKit
import Derived.OpenShut
import Derived.ShutString
namespace Go.Proofs.Ytaebmggjhjobnaa.rotSmall
open Go.ChangeShapes Go.WideShapes Go.ChangeAt Go.RowKit
open Go.ChangeMaps (open_string shut_string)
set_option linter.unusedVariables false

theorem own : ownKnob Try.prog.godebug = none := by kernel_rfl

theorem walk (z0 : List Int) (l0 : z0.length = 3) (w0 : ∀ z ∈ z0, (Lit.int .i64 z).wf = true) (z1 : List Int) (l1 : z1.length = 3) (w1 : ∀ z ∈ z1, (Lit.int .i64 z).wf = true) (w : World) :
    Calls Try.prog 12 #[.agg (z0.map (Value.int .i64)).toArray, .agg (z1.map (Value.int .i64)).toArray] w fun e w' => e = .returned (.bool true) ∧ Below w.heap.size w w' := by
  match z0, l0 with
  | [x0, x1, x2], _ =>
    match z1, l1 with
    | [y0, y1, y2], _ => exact lawRotSmall x0 x1 x2 y0 y1 y2 w

set_option maxRecDepth 100000 in
theorem lifted (os : Os) (started : os.Started) (H : Type) (enc : TypeId × Value → H) :
    ReturnsInHanded {} Try.checked os 12 .any (Rows.rotSmallSpec.pre6 enc Try.prog Try.f12 Rows.rotSmallRow.domain false) (Rows.rotSmallSpec.post enc Try.prog Try.f12 false true false false) := by
  refine returnsInHanded_of_change (C := Try.checked) own started (by kernel_rfl) Try.func12
    (ChangeSpec.witness6 (enc := enc) (C := Try.checked) false ⟨#[], #[.agg #[.int .i64 0, .int .i64 0, .int .i64 0], .agg #[.int .i64 0, .int .i64 0, .int .i64 0]], []⟩ 8 (by kernel_rfl) (by kernel_rfl) (by kernel_rfl) (by kernel_rfl)) ?_
  intro W base args ds gs before hval0 hW hcnd _
  have hval : ∀ (j : Nat) t v, Try.f12.params[j]? = some t → args[j]? = some v → Value.okWide Try.prog W .any base t v := hval0
  have hW' := hW
  obtain ⟨p, q, hA0, hV, rfl, hfz, hnd⟩ := hW
  have hA : DataW.TrodAll enc Try.prog W 0 (fun _ => true) true Try.f12.params.toList args.toList ds p := hA0
  rw [Try.params12] at hA hval
  obtain ⟨v0, vs0, d0, ds0, p0, q0, hargs, rfl, rfl, h0, r0⟩ := trodAll_cons hA
  obtain ⟨v1, vs1, d1, ds1, p1, q1, rfl, rfl, rfl, h1, r1⟩ := trodAll_cons r0
  obtain ⟨rfl, rfl, rfl⟩ := trodAll_nil r1
  obtain rfl : args = #[v0, v1] := by cases args; simp_all
  obtain ⟨rfl, rfl⟩ := trodVars_none hV
  obtain ⟨z0, l0, rfl, rfl, w0, t0⟩ := Go.Lr.open_arr (n := 3) (show Try.prog.underlying 64 = some (.array 3 2) by kernel_rfl) (show Try.prog.underlying 2 = some (.int .i64) by kernel_rfl) (by kernel_rfl) (by kernel_rfl) (hval 0 64 v0 rfl rfl) h0
  obtain ⟨z1, l1, rfl, rfl, w1, t1⟩ := Go.Lr.open_arr (n := 3) (show Try.prog.underlying 64 = some (.array 3 2) by kernel_rfl) (show Try.prog.underlying 2 = some (.int .i64) by kernel_rfl) (by kernel_rfl) (by kernel_rfl) (hval 1 64 v1 rfl rfl) h1
  clear hA0 hval0
  simp only [List.append_nil] at hW'
  refine (walk z0 l0 w0 z1 l1 w1 W).mono fun e W' ⟨he, hg⟩ => ?_
  subst he
  exact ⟨_, rfl, _, _, _, [], [], [], hW', (trodAll_cons_mk (shut_bool (show Try.prog.underlying 4 = some .bool by kernel_rfl) _) trodAll_mk0), (trodAll_cons_mk (t0 _ _ _) (trodAll_cons_mk (t1 _ _ _) trodAll_mk0)), rfl, hg.frame _, fun h => by cases h⟩

theorem over : Rows.rotSmallRow.holds Try.pinned (OpenSpec.ofChange Rows.rotSmallSpec) :=
  OpenClaim.holds_of_wide 12 Try.f12 rfl rfl rfl rfl rfl rfl rfl ⟨rfl, rfl, rfl, rfl, rfl⟩ rfl rfl rfl rfl rfl (by kernel_rfl) Try.func12 (by kernel_rfl)
    (of_decide_eq_true (by kernel_rfl)) (by unfold Func.isWrapper; first | (rw [if_pos (by decide +kernel)]; kernel_rfl) | (rw [if_neg (by decide +kernel)]; exact ⟨rfl, rfl⟩))
    (fun os started H enc _ => lifted os started H enc)

theorem proved : Rows.RotSmallSaid :=
  over
#print axioms proved
end Go.Proofs.Ytaebmggjhjobnaa.rotSmall
