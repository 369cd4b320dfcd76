/- The law TopTilted answers true, whatever it is handed (no condition). The frame of this text came from the kit's proof-skeleton tool, turned to arrays. -/
import Derived.Test.YtfepmlklbapfiaaGreatRows
import Derived.WalkKit
import Derived.Test.YtfepmlklbapfiaaGreatLrM7
import Derived.ProofKit
import Derived.OpenShut
import Derived.ShutString
namespace Go.Proofs.YtfepmlklbapfiaaGreat.topTilted
open Go.ChangeShapes Go.WideShapes Go.ChangeAt Go.RowKit
open Go.ChangeMaps (open_string shut_string)
set_option linter.unusedVariables false

theorem own : ownKnob Tryz.prog.godebug = none := by kernel_rfl

theorem walk (z0 : List Int) (l0 : z0.length = 3) (w0 : ∀ z ∈ z0, (Lit.int .i64 z).wf = true) (w : World) :
    Calls Tryz.prog 4 #[.agg (z0.map (Value.int .i64)).toArray] w fun e w' => e = .returned (.bool true) ∧ Below w.heap.size w w' := by
  match z0, l0 with
  | [f0, f1, f2], _ => exact lawTopTilted f0 f1 f2 w

set_option maxRecDepth 100000 in
theorem lifted (os : Os) (started : os.Started) (H : Type) (enc : TypeId × Value → H) :
    ReturnsInHanded {} Tryz.checked os 4 .any (Rows.topTiltedSpec.pre6 enc Tryz.prog Tryz.f4 Rows.topTiltedRow.domain false) (Rows.topTiltedSpec.post enc Tryz.prog Tryz.f4 false true false false) := by
  refine returnsInHanded_of_change (C := Tryz.checked) own started (by kernel_rfl) Tryz.func4
    (ChangeSpec.witness6 (enc := enc) (C := Tryz.checked) false ⟨#[], #[.agg #[.int .i64 0, .int .i64 0, .int .i64 0]], []⟩ 8 (by kernel_rfl) (by kernel_rfl) (by kernel_rfl) (by kernel_rfl)) ?_
  intro W base args ds gs before hval0 hW hcnd _
  have hval : ∀ (j : Nat) t v, Tryz.f4.params[j]? = some t → args[j]? = some v → Value.okWide Tryz.prog W .any base t v := hval0
  have hW' := hW
  obtain ⟨p, q, hA0, hV, rfl, hfz, hnd⟩ := hW
  have hA : DataW.TrodAll enc Tryz.prog W 0 (fun _ => true) true Tryz.f4.params.toList args.toList ds p := hA0
  rw [Tryz.params4] at hA hval
  obtain ⟨v0, vs0, d0, ds0, p0, q0, hargs, rfl, rfl, h0, r0⟩ := trodAll_cons hA
  obtain ⟨rfl, rfl, rfl⟩ := trodAll_nil r0
  obtain rfl : args = #[v0] := by cases args; simp_all
  obtain ⟨rfl, rfl⟩ := trodVars_none hV
  obtain ⟨z0, l0, rfl, rfl, w0, t0⟩ := Go.Lr.open_arr (n := 3) (show Tryz.prog.underlying 46 = some (.array 3 2) by kernel_rfl) (show Tryz.prog.underlying 2 = some (.int .i64) by kernel_rfl) (by kernel_rfl) (by kernel_rfl) (hval 0 46 v0 rfl rfl) h0
  clear hA0 hval0
  simp only [List.append_nil] at hW'
  refine (walk z0 l0 w0 W).mono fun e W' ⟨he, hg⟩ => ?_
  subst he
  exact ⟨_, rfl, _, _, _, [], [], [], hW', (trodAll_cons_mk (shut_bool (show Tryz.prog.underlying 4 = some .bool by kernel_rfl) _) trodAll_mk0), (trodAll_cons_mk (t0 _ _ _) trodAll_mk0), rfl, hg.frame _, fun h => by cases h⟩

theorem over : Rows.topTiltedRow.holds Tryz.pinned (OpenSpec.ofChange Rows.topTiltedSpec) :=
  OpenClaim.holds_of_wide 4 Tryz.f4 rfl rfl rfl rfl rfl rfl rfl ⟨rfl, rfl, rfl, rfl, rfl⟩ rfl rfl rfl rfl rfl (by kernel_rfl) Tryz.func4 (by kernel_rfl)
    (of_decide_eq_true (by kernel_rfl)) (by unfold Func.isWrapper; first | (rw [if_pos (by decide +kernel)]; kernel_rfl) | (rw [if_neg (by decide +kernel)]; exact ⟨rfl, rfl⟩))
    (fun os started H enc _ => lifted os started H enc)

theorem proved : Rows.TopTiltedSaid :=
  over
#print axioms proved
end Go.Proofs.YtfepmlklbapfiaaGreat.topTilted
