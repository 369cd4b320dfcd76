/- The law RotTurns answers true, whatever it is handed (no condition). The frame of this text came from the kit's proof-skeleton tool, turned to arrays. -/
import Derived.Test.YtaebmggjhjobnaaRows
import Derived.WalkKit
import Derived.Test.YtaebmggjhjobnaaLrM6
import Derived.ProofKit
import Derived.OpenShut
import Derived.ShutString
namespace Go.Proofs.Ytaebmggjhjobnaa.rotTurns
open Go.ChangeShapes Go.WideShapes Go.ChangeAt Go.RowKit
open Go.ChangeMaps (open_string shut_string)
set_option linter.unusedVariables false

theorem own : ownKnob Try.prog.godebug = none := by kernel_rfl

theorem walk (z0 : List Int) (l0 : z0.length = 4) (w0 : ∀ z ∈ z0, (Lit.int .i64 z).wf = true) (z1 : List Int) (l1 : z1.length = 4) (w1 : ∀ z ∈ z1, (Lit.int .i64 z).wf = true) (z2 : List Int) (l2 : z2.length = 3) (w2 : ∀ z ∈ z2, (Lit.int .i64 z).wf = true) (w : World) :
    Calls Try.prog 11 #[.agg (z0.map (Value.int .i64)).toArray, .agg (z1.map (Value.int .i64)).toArray, .agg (z2.map (Value.int .i64)).toArray] w fun e w' => e = .returned (.bool true) ∧ Below w.heap.size w w' := by
  match z0, l0 with
  | [q0, q1, q2, q3], _ =>
    match z1, l1 with
    | [p0, p1, p2, p3], _ =>
      match z2, l2 with
      | [v0, v1, v2], _ => exact lawRotTurns q0 q1 q2 q3 p0 p1 p2 p3 v0 v1 v2 w

set_option maxRecDepth 100000 in
theorem lifted (os : Os) (started : os.Started) (H : Type) (enc : TypeId × Value → H) :
    ReturnsInHanded {} Try.checked os 11 .any (Rows.rotTurnsSpec.pre6 enc Try.prog Try.f11 Rows.rotTurnsRow.domain false) (Rows.rotTurnsSpec.post enc Try.prog Try.f11 false true false false) := by
  refine returnsInHanded_of_change (C := Try.checked) own started (by kernel_rfl) Try.func11
    (ChangeSpec.witness6 (enc := enc) (C := Try.checked) false ⟨#[], #[.agg #[.int .i64 0, .int .i64 0, .int .i64 0, .int .i64 0], .agg #[.int .i64 0, .int .i64 0, .int .i64 0, .int .i64 0], .agg #[.int .i64 0, .int .i64 0, .int .i64 0]], []⟩ 8 (by kernel_rfl) (by kernel_rfl) (by kernel_rfl) (by kernel_rfl)) ?_
  intro W base args ds gs before hval0 hW hcnd _
  have hval : ∀ (j : Nat) t v, Try.f11.params[j]? = some t → args[j]? = some v → Value.okWide Try.prog W .any base t v := hval0
  have hW' := hW
  obtain ⟨p, q, hA0, hV, rfl, hfz, hnd⟩ := hW
  have hA : DataW.TrodAll enc Try.prog W 0 (fun _ => true) true Try.f11.params.toList args.toList ds p := hA0
  rw [Try.params11] at hA hval
  obtain ⟨v0, vs0, d0, ds0, p0, q0, hargs, rfl, rfl, h0, r0⟩ := trodAll_cons hA
  obtain ⟨v1, vs1, d1, ds1, p1, q1, rfl, rfl, rfl, h1, r1⟩ := trodAll_cons r0
  obtain ⟨v2, vs2, d2, ds2, p2, q2, rfl, rfl, rfl, h2, r2⟩ := trodAll_cons r1
  obtain ⟨rfl, rfl, rfl⟩ := trodAll_nil r2
  obtain rfl : args = #[v0, v1, v2] := by cases args; simp_all
  obtain ⟨rfl, rfl⟩ := trodVars_none hV
  obtain ⟨z0, l0, rfl, rfl, w0, t0⟩ := Go.Lr.open_arr (n := 4) (show Try.prog.underlying 61 = some (.array 4 2) by kernel_rfl) (show Try.prog.underlying 2 = some (.int .i64) by kernel_rfl) (by kernel_rfl) (by kernel_rfl) (hval 0 61 v0 rfl rfl) h0
  obtain ⟨z1, l1, rfl, rfl, w1, t1⟩ := Go.Lr.open_arr (n := 4) (show Try.prog.underlying 61 = some (.array 4 2) by kernel_rfl) (show Try.prog.underlying 2 = some (.int .i64) by kernel_rfl) (by kernel_rfl) (by kernel_rfl) (hval 1 61 v1 rfl rfl) h1
  obtain ⟨z2, l2, rfl, rfl, w2, t2⟩ := Go.Lr.open_arr (n := 3) (show Try.prog.underlying 64 = some (.array 3 2) by kernel_rfl) (show Try.prog.underlying 2 = some (.int .i64) by kernel_rfl) (by kernel_rfl) (by kernel_rfl) (hval 2 64 v2 rfl rfl) h2
  clear hA0 hval0
  simp only [List.append_nil] at hW'
  refine (walk z0 l0 w0 z1 l1 w1 z2 l2 w2 W).mono fun e W' ⟨he, hg⟩ => ?_
  subst he
  exact ⟨_, rfl, _, _, _, [], [], [], hW', (trodAll_cons_mk (shut_bool (show Try.prog.underlying 4 = some .bool by kernel_rfl) _) trodAll_mk0), (trodAll_cons_mk (t0 _ _ _) (trodAll_cons_mk (t1 _ _ _) (trodAll_cons_mk (t2 _ _ _) trodAll_mk0))), rfl, hg.frame _, fun h => by cases h⟩

theorem over : Rows.rotTurnsRow.holds Try.pinned (OpenSpec.ofChange Rows.rotTurnsSpec) :=
  OpenClaim.holds_of_wide 11 Try.f11 rfl rfl rfl rfl rfl rfl rfl ⟨rfl, rfl, rfl, rfl, rfl⟩ rfl rfl rfl rfl rfl (by kernel_rfl) Try.func11 (by kernel_rfl)
    (of_decide_eq_true (by kernel_rfl)) (by unfold Func.isWrapper; first | (rw [if_pos (by decide +kernel)]; kernel_rfl) | (rw [if_neg (by decide +kernel)]; exact ⟨rfl, rfl⟩))
    (fun os started H enc _ => lifted os started H enc)

theorem proved : Rows.RotTurnsSaid :=
  over
#print axioms proved
end Go.Proofs.Ytaebmggjhjobnaa.rotTurns
