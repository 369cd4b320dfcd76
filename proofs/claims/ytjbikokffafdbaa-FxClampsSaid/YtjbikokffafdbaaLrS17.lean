/- The local evaluator: contracts of methods on a flag, off their runs. -/
import Derived.Test.YtjbikokffafdbaaLrS16
namespace Go.Lr
open Go.RowKit

def A0 : LV := .v (.one (.ptr 0 0))

section
variable {P : Program} {S : FuncId → Option Sum} {z : Md}

theorem acc_run (hs : Sound P S) {n : Nat} {f : FuncId} {args : List LV} {dec : List (Option Bool)} {v : LV} {cs : List (Bool × Bool)} {ty : TypeId} {h h' : Bool}
    (hrun : (runF P S z n f (A0 :: args) [(0, flag ty h)] 1 dec).map (fun r => (r.1, getM r.2.1 0, r.2.2.2)) = some (v, some (flag ty h'), cs)) (hc : ∀ c ∈ cs, c.1 = c.2) (ha : plainVs args = true) (hv : v.ok noP = true)
    (w : World) (b : Nat) (hb : w.heap[b]? = some (flagO ty h)) :
    Calls P f (Value.pointer (some ⟨b, 0, none⟩) :: args.map (LV.den E0)).toArray w fun e w' => e = .returned (v.den E0) ∧ Turned b (flagO ty h') w w' := by
  cases hr : runF P S z n f (A0 :: args) [(0, flag ty h)] 1 dec with
  | none => rw [hr] at hrun; cases hrun
  | some q =>
    obtain ⟨v', m', nb', cs'⟩ := q
    rw [hr] at hrun
    simp only [Option.map_some, Option.some.injEq, Prod.mk.injEq] at hrun
    obtain ⟨rfl, hm, rfl⟩ := hrun
    exact acc_of_run hs hr hm hc ha hv w b hb

/-- A run at every value of the flag, path by path: 'the values lead here'. -/
theorem accSum_run (hs : Sound P S) {f : FuncId} (ho : Own P f) {ty : TypeId} {F : List LV → Bool → Option (LV × Bool × List (Bool × Bool))}
    (h : ∀ args hb v h' cs, F args hb = some (v, h', cs) → (∀ c ∈ cs, c.1 = c.2) → v.ok noP = true ∧ ∃ (n : Nat) (dec : List (Option Bool)) (cs' : List (Bool × Bool)),
      (runF P S z n f (A0 :: args) [(0, flag ty hb)] 1 dec).map (fun r => (r.1, getM r.2.1 0, r.2.2.2)) = some (v, some (flag ty h'), cs') ∧ ∀ c ∈ cs', c.1 = c.2) : SumOK P f (accSum ty F) := by
  refine accSum_ok fun args hb v h' cs hF hc hp w b hbk => ?_
  obtain ⟨hv, n, dec, cs', hrun, hc'⟩ := h args hb v h' cs hF hc
  exact callOK_of ho (acc_run hs hrun hc' hp hv w b hbk)

/-- The like for plain values. -/
theorem pureSum_run (hs : Sound P S) {f : FuncId} (ho : Own P f) {F : List LV → Option (LV × List (Bool × Bool))}
    (h : ∀ args v cs, F args = some (v, cs) → (∀ c ∈ cs, c.1 = c.2) → ∃ (n : Nat) (dec : List (Option Bool)) (cs' : List (Bool × Bool)),
      (runF P S z n f args [] 0 dec).map (fun r => (r.1, r.2.2.2)) = some (v, cs') ∧ ∀ c ∈ cs', c.1 = c.2) : SumOK P f (pureSum F) := by
  refine pureSum_ok' fun args v cs hF hc hp hv w => ?_
  obtain ⟨n, dec, cs', hrun, hc'⟩ := h args v cs hF hc
  exact callOK_of ho (law_of_run hs hrun hc' hp hv w)

/-- A law's run: its answer, and what is asked on the way. -/
theorem law_true (hs : Sound P S) {n : Nat} {f : FuncId} {args : List LV} {dec : List (Option Bool)} {t : Bool} {cs : List (Bool × Bool)} (h : (runF P S z n f args [] 0 dec).map (fun r => (r.1, r.2.2.2)) = some (.v (.one (.bool t)), cs))
    (ht : t = true) (hc : ∀ c ∈ cs, c.1 = c.2) (ha : plainVs args = true) (w : World) :
    Calls P f (args.map (LV.den E0)).toArray w fun e w' => e = .returned (.bool true) ∧ Below w.heap.size w w' := by
  subst ht
  exact law_of_run hs h hc ha rfl w

/-- A closed law, called by another: its answer is known. -/
theorem pureSum_const (hs : Sound P S) {f : FuncId} (ho : Own P f) {n : Nat} {v : LV} (h : (runF P S z n f [] [] 0 []).map (fun r => (r.1, r.2.2.2)) = some (v, [])) :
    SumOK P f (pureSum fun args => match args with | [] => some (v, []) | _ => none) := by
  refine pureSum_run (z := z) hs ho fun args u cs hF _ => ?_
  split at hF
  · cases hF
    exact ⟨n, [], [], h, by simp⟩
  · cases hF

end
end Go.Lr
