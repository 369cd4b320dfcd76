/- The law QuatChains answers true, whatever it is handed (no condition). The frame of this text came from the kit's proof-skeleton tool, turned to slices of arrays. -/
import Derived.Test.YtnabopepomjncaaRows
import Derived.WalkKit
import Derived.Test.YtnabopepomjncaaLrM5
import Derived.ProofKit
import Derived.OpenShut
import Derived.ShutString
import Derived.ChangeOld
import Derived.Below
namespace Go.Proofs.Ytnabopepomjncaa.quatChains
open Go.ChangeShapes Go.WideShapes Go.ChangeAt Go.RowKit
open Go.ChangeMaps (open_string shut_string)
set_option linter.unusedVariables false

theorem own : ownKnob Try.prog.godebug = none := by kernel_rfl
theorem laidOut : laidOutB Try.prog = true := by kernel_rfl

theorem walk (a0 : Option Addr) (len0 cap0 : Nat) (z0 : List Int) (w : World) (B0 : Go.Lr.IsBlk w a0) (w0 : Go.Lr.IsRowM 4 w a0 len0 cap0 z0) :
    Calls Try.prog 8 #[.slice a0 len0 cap0] w fun e w' => e = .returned (.bool true) ∧ Below w.heap.size w w' := by
  exact lawQuatChains a0 len0 cap0 z0 w B0 w0

set_option maxRecDepth 100000 in
theorem lifted (os : Os) (started : os.Started) (H : Type) (enc : TypeId × Value → H) :
    ReturnsInHanded {} Try.checked os 8 .any (Rows.quatChainsSpec.pre6 enc Try.prog Try.f8 Rows.quatChainsRow.domain false) (Rows.quatChainsSpec.post enc Try.prog Try.f8 false true false false) := by
  refine returnsInHanded_of_change (C := Try.checked) own started (by kernel_rfl) Try.func8
    (ChangeSpec.witness6 (enc := enc) (C := Try.checked) false ⟨#[], #[.slice none 0 0], []⟩ 8 (by kernel_rfl) (by kernel_rfl) (by kernel_rfl) (by kernel_rfl)) ?_
  intro W base args ds gs before hval0 hW hcnd _
  have hval : ∀ (j : Nat) t v, Try.f8.params[j]? = some t → args[j]? = some v → Value.okWide Try.prog W .any base t v := hval0
  have hW' := hW
  obtain ⟨p, q, hA0, hV, rfl, hfz, hnd⟩ := hW
  have hA : DataW.TrodAll enc Try.prog W 0 (fun _ => true) true Try.f8.params.toList args.toList ds p := hA0
  rw [Try.params8] at hA hval
  obtain ⟨v0, vs0, d0, ds0, p0, q0, hargs, rfl, rfl, h0, r0⟩ := trodAll_cons hA
  obtain ⟨rfl, rfl, rfl⟩ := trodAll_nil r0
  obtain rfl : args = #[v0] := by cases args; simp_all
  obtain ⟨rfl, rfl⟩ := trodVars_none hV
  have ut : Try.prog.underlying 46 = some (.slice 48) := by kernel_rfl
  obtain ⟨a0, len0, cap0, rfl⟩ := okWide_slice ut (hval 0 46 v0 rfl rfl)
  have B0 := Go.Lr.okWide_blk ut (hval 0 46 _ rfl rfl)
  have k0 := h0
  have lt0 : ∀ x ∈ p0, x.block < W.heap.size := by obtain ⟨m, hm⟩ := k0; exact DataW.trod_lt m _ _ _ hm
  obtain ⟨z0, w0⟩ : ∃ zs, Go.Lr.IsRowM 4 W a0 len0 cap0 zs := by
    obtain ⟨fuel, hf⟩ := h0
    rcases Go.Lr.open_rows ut (Go.Lr.plain_arr (n := 4) (show Try.prog.underlying 48 = some (.array 4 2) by kernel_rfl) (show Try.prog.underlying 2 = some (.int .i64) by kernel_rfl) (by kernel_rfl) (by kernel_rfl)) (by omega) hf with hcs | ⟨x, l, c, hcs, hl, hm, hz⟩
    · simp [Value.cells] at hcs
      obtain ⟨rfl, rfl, rfl⟩ := hcs
      exact ⟨[], .inl ⟨rfl, rfl, rfl, rfl⟩⟩
    · simp [Value.cells] at hcs
      obtain ⟨rfl, rfl, rfl⟩ := hcs
      obtain ⟨zs, z1, z2⟩ := hz (B0 x rfl).1
      exact ⟨zs, .inr ⟨_, rfl, hl, hm, z1, z2⟩⟩
  clear hA0 hval0
  refine (walk a0 len0 cap0 z0 W B0 w0).mono fun e W' ⟨he, bel⟩ => ?_
  subst he
  exact ⟨_, rfl, _, _, _, [], _, [], hW', (trodAll_cons_mk (shut_bool (show Try.prog.underlying 4 = some .bool by kernel_rfl) _) trodAll_mk0), (trodAll_cons_mk (Below.trod laidOut (by kernel_rfl) (of_decide_eq_true (by kernel_rfl)) k0 bel lt0) trodAll_mk0), rfl, bel.frame _, fun h => by cases h⟩

theorem over : Rows.quatChainsRow.holds Try.pinned (OpenSpec.ofChange Rows.quatChainsSpec) :=
  OpenClaim.holds_of_wide 8 Try.f8 rfl rfl rfl rfl rfl rfl rfl ⟨rfl, rfl, rfl, rfl, rfl⟩ rfl rfl rfl rfl rfl (by kernel_rfl) Try.func8 (by kernel_rfl)
    (of_decide_eq_true (by kernel_rfl)) (by unfold Func.isWrapper; first | (rw [if_pos (by decide +kernel)]; kernel_rfl) | (rw [if_neg (by decide +kernel)]; exact ⟨rfl, rfl⟩))
    (fun os started H enc _ => lifted os started H enc)

/-- THE STATEMENT -/
theorem proved : Rows.QuatChainsSaid := over
#print axioms proved
end Go.Proofs.Ytnabopepomjncaa.quatChains
