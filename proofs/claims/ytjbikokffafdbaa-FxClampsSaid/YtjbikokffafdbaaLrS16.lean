/- The local evaluator: summaries that the evaluator makes itself. -/
import Derived.Test.YtjbikokffafdbaaLrS15
namespace Go.Lr
open Go.RowKit

section
variable {P : Program} {S : FuncId → Option Sum} {z : Md}

/-- Of plain values. -/
def autoP (P : Program) (S : FuncId → Option Sum) (z : Md) (n : Nat) (f : FuncId) : Sum := pureSum fun args =>
  match runF P S z n f args [] 0 [] with
  | some (v, _, _, cs) => some (v, cs)
  | none => none

theorem pureSum_ok' {f : FuncId} {F : List LV → Option (LV × List (Bool × Bool))}
    (h : ∀ args v cs, F args = some (v, cs) → (∀ c ∈ cs, c.1 = c.2) → plainVs args = true → v.ok noP = true → ∀ w, CallOK P f (args.map (LV.den E0)).toArray w fun u w' => u = v.den E0 ∧ Below w.heap.size w w') : SumOK P f (pureSum F) := by
  intro args t g nb p rdB wrB ans ws E w hs hr hw hnd hgo hz hc hrel hg hargs hn
  refine pureSum_ok (F := fun a => if plainVs a = true then (match F a with | some (v, cs) => if v.ok noP = true then some (v, cs) else none | none => none) else none) (fun args v cs hF hc w => ?_) args t g nb p rdB wrB ans ws E w ?_ hr hw hnd hgo hz hc hrel hg hargs hn
  · split at hF
    · rename_i hp
      split at hF
      · rename_i v' cs' hF'
        split at hF
        · rename_i hv
          cases hF
          exact h args v cs hF' hc hp hv w
        · cases hF
      · cases hF
    · cases hF
  · unfold pureSum at hs ⊢
    cases hp : plainVs args with
    | false => rw [hp] at hs; cases hs
    | true =>
      rw [hp] at hs
      simp only [hp, if_true] at hs ⊢
      cases hF : F args with
      | none => rw [hF] at hs; cases hs
      | some q =>
        obtain ⟨v, cs⟩ := q
        rw [hF] at hs
        simp only at hs ⊢
        cases hv : v.ok noP with
        | false => rw [hv] at hs; cases hs
        | true =>
          rw [hv] at hs
          simp only [if_true, hv]
          exact hs

theorem autoP_ok (hs : Sound P S) {n : Nat} {f : FuncId} (ho : Own P f) : SumOK P f (autoP P S z n f) := by
  refine pureSum_ok' fun args v cs hF hc hp hv w => ?_
  split at hF
  · rename_i v' m' nb' cs' hrun
    cases hF
    exact callOK_of ho (calls_of_run hs hrun hc hp hv w)
  · cases hF

/-- A first argument that points into one block. -/
def refTo : LV → Option (Nat × LV)
  | .v (.one (.ptr b o)) => some (b, .v (.one (.ptr 0 o)))
  | .v (.one (.sl b o n c)) => some (b, .v (.one (.sl 0 o n c)))
  | _ => none

theorem refTo_spec {x y : LV} {b : Nat} (h : refTo x = some (b, y)) (E : Env) : x.den E = y.den (fun _ => E b) ∧ y.ok (below 1) = true ∧ ∀ E', y.den E' = y.den fun _ => E' 0 := by
  unfold refTo at h
  split at h <;> first | (cases h; exact ⟨rfl, rfl, fun _ => rfl⟩) | cases h

/-- One block is handed on, and plain values. -/
def autoM (P : Program) (S : FuncId → Option Sum) (z : Md) (n : Nat) (f : FuncId) : Sum := fun args =>
  match args with
  | x :: rest => match refTo x, plainVs rest with
    | some (b, y), true => some ⟨[], [b], fun _ wB _ => match wB with
      | [k] => match okL noP k.cells with
        | true => match runF P S z n f (y :: rest) [(0, k)] 1 [] with
          | some (v, m', _, cs) => match getM m' 0 with
            | some k' => match Nat.beq k'.es k.es, okL noP k'.cells, v.ok noP with
              | true, true, true => some ⟨v, [k'], [], cs⟩
              | _, _, _ => none
            | none => none
          | none => none
        | false => none
      | _ => none⟩
    | _, _ => none
  | [] => none

theorem autoM_ok (hs : Sound P S) {n : Nat} {f : FuncId} (ho : Own P f) : SumOK P f (autoM P S z n f) := by
  intro args t g nb p rdB wrB ans ws E w hs' hr hw _ hgo hz hc hrel hg hargs hn
  unfold autoM at hs'
  split at hs'
  · rename_i x rest
    split at hs'
    · rename_i b y href hp
      cases hs'
      simp only at hgo hw
      split at hgo
      · rename_i k
        split at hgo
        · rename_i hk
          split at hgo
          · rename_i v m' nb' cs hrun
            split at hgo
            · rename_i k' hk'
              split at hgo
              · rename_i hes hok' hv
                cases hgo
                simp only [liveAll] at hw
                split at hw
                · rename_i q r hq hr'
                  cases hr'
                  cases hw
                  simp only [zipW] at hz
                  cases hz
                  rw [nbeq] at hes
                  have hes' : k'.es = k.es := by simpa using hes
                  obtain ⟨r1, r2, r3⟩ := refTo_spec href E
                  have hp' := plainVs_iff.1 hp
                  obtain ⟨s', h1, h2, h3, h4⟩ := runF_body hrun
                  have hget : ∀ i c, getM [(0, k)] i = some c → i = 0 ∧ c = k := by
                    intro i c hc
                    rw [getM_cons] at hc
                    by_cases hi : i = 0
                    · rw [if_pos hi] at hc; cases hc; exact ⟨hi, rfl⟩
                    · rw [if_neg hi] at hc; simp [getM] at hc
                  obtain ⟨v', b1, b2, b3, b4, b5, b6, b7, b8⟩ := (exec_sound (binOK P) hs.sums hs.mix hs.ng n).2.2.2 f (y :: rest) _ _ s' h1 (fun i c hc => by
                    obtain ⟨rfl, rfl⟩ := hget i c hc
                    exact ⟨Nat.zero_lt_one, okL_mono noP_below hk⟩) ⟨rfl, trivial⟩ (fun u hu => by
                    rcases List.mem_cons.1 hu with rfl | hu
                    · exact r2
                    · exact LV.ok_mono noP_below (hp' u hu))
                  cases b1
                  obtain ⟨r0, g1, g2, g3⟩ := hrel.blk b k hq
                  have hmr : MRel (fun _ => E b) ⟨.nil, 0, [(0, k)], 1, [], []⟩ w := by
                    refine ⟨⟨fun i c hc => ?_, fun i j hi hj _ => ?_⟩, fun i c hc => ?_, ⟨rfl, trivial⟩⟩
                    · obtain ⟨rfl, rfl⟩ := hget i c hc
                      exact ⟨r0, by rw [denA_noP hk] at g1 ⊢; exact g1, g2, g3⟩
                    · obtain ⟨c, hc⟩ := Option.isSome_iff_exists.1 hi
                      obtain ⟨d, hd⟩ := Option.isSome_iff_exists.1 hj
                      rw [(hget i c hc).1, (hget j d hd).1]
                    · obtain ⟨rfl, rfl⟩ := hget i c hc
                      exact ⟨Nat.zero_lt_one, okL_mono noP_below hk⟩
                  have hcall := b8 (by rw [Good, h4]; exact hc) (fun _ => E b) w hmr
                  have hargs' : ((y :: rest).map (LV.den fun _ => E b)) = (x :: rest).map (LV.den E) := by
                    rw [List.map_cons, List.map_cons, ← r1, denL_noP hp', denL_noP (E := E) hp']
                  rw [hargs'] at hcall
                  obtain ⟨fn, f1, f2, f3⟩ := ho
                  refine .inl ⟨fn, f1, f2, f3, hcall.mono ?_⟩
                  rintro e w' ⟨E', rfl, hmr', hx⟩
                  refine ⟨_, rfl, E, by rw [den_noP hv, den_noP (E := E) hv], ?_⟩
                  obtain ⟨r', q1, q2, q3⟩ := hmr'.rel.blk 0 k' (by rw [h2]; exact hk')
                  rw [hx.agree 0 (by show 0 < 1; omega)] at q1 q3
                  have hframe : ∀ j, j < w.heap.size → j ≠ (E b).1 → w'.heap[j]? = w.heap[j]? := fun j hj hne => hx.frame j hj fun i hi he => hne he.symm
                  refine ⟨fun _ _ => rfl, ⟨fun i c hic => ?_, fun i j hi hj he => ?_⟩, hx.os, hx.tape, hx.output, hx.size, fun j hj hne => hframe j hj fun e => hne b (by simp [hq]) e.symm, fun i h1 h2 => by simp at h2; omega⟩
                  · simp only [nwG, wrG] at hic
                    by_cases hi : i = b
                    · subst hi
                      rw [if_pos rfl] at hic
                      cases hic
                      exact ⟨r', by rw [denA_noP hok'] at q1 ⊢; exact q1, q2, q3⟩
                    · rw [if_neg hi] at hic
                      obtain ⟨r, u1, u2, u3⟩ := hrel.blk i c hic
                      refine ⟨r, ?_, u2, u3⟩
                      rw [hframe _ (Array.getElem?_eq_some_iff.1 u1).1 (fun e => hi (hrel.inj i b (by simp [hic]) (by simp [hq]) e))]
                      exact u1
                  · simp only [nwG, wrG] at hi hj
                    refine hrel.inj i j ?_ ?_ he
                    · by_cases h1 : i = b
                      · rw [h1]; simp [hq]
                      · simpa [if_neg h1] using hi
                    · by_cases h1 : j = b
                      · rw [h1]; simp [hq]
                      · simpa [if_neg h1] using hj
                · cases hw
              · cases hgo
            · cases hgo
          · cases hgo
        · cases hgo
      · cases hgo
    · cases hs'
  · cases hs'

/-- One summary more. -/
def more (S : FuncId → Option Sum) (f : FuncId) (s : Sum) : FuncId → Option Sum := fun g =>
  match Nat.beq g f with
  | true => some s
  | false => S g

theorem Sound.more (h : Sound P S) {f : FuncId} {s : Sum} (hs : SumOK P f s) : Sound P (Go.Lr.more S f s) := by
  refine ⟨fun g t hg => ?_, h.mix, h.ng⟩
  unfold Go.Lr.more at hg
  split at hg
  · rename_i he
    cases hg
    rw [nbeq] at he
    have : g = f := by simpa using he
    subst this
    exact hs
  · exact h.sums g t hg

theorem Sound.none (hmix : P.follows .mixedOrders = true) (hng : ∀ (f : FuncId) (fn : Func), P.funcs[f]? = some fn → fn.name ≠ "runtime.NumGoroutine") : Sound P (fun _ => Option.none) :=
  ⟨(fun f s h => by cases h), hmix, hng⟩

/-- A law of plain values, off its run. -/
theorem law_of_run (hs : Sound P S) {n : Nat} {f : FuncId} {args : List LV} {dec : List (Option Bool)} {v : LV} {cs : List (Bool × Bool)} (h : (runF P S z n f args [] 0 dec).map (fun r => (r.1, r.2.2.2)) = some (v, cs))
    (hc : ∀ c ∈ cs, c.1 = c.2) (ha : plainVs args = true) (hv : v.ok noP = true) (w : World) :
    Calls P f (args.map (LV.den E0)).toArray w fun e w' => e = .returned (v.den E0) ∧ Below w.heap.size w w' := by
  cases hr : runF P S z n f args [] 0 dec with
  | none => rw [hr] at h; cases h
  | some q =>
    obtain ⟨v', m', nb', cs'⟩ := q
    rw [hr] at h
    cases h
    exact calls_of_run hs hr hc ha hv w

end
end Go.Lr
