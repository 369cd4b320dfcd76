/- Joined texts. What each part proves stands ahead of it; no condition. -/
import Derived.Test.YthfanchjkkeejaaLrM6

/- Opening a struct of numbers that a law is handed. -/
namespace Go.Lr
open Go.ChangeShapes Go.WideShapes Go.ChangeAt Go.RowKit

section
variable {H : Type} {enc : TypeId × Value → H} {P : Program} {held : Bool}

/-- A type of so many whole numbers of 64 bits, one after the other. -/
def PlainT (enc : TypeId × Value → H) (P : Program) (held : Bool) (t : TypeId) (n : Nat) : Prop :=
  P.cellsOf t = n ∧ ∀ (W : World) (base : Nat) (sp : Nat → Bool) (m : Nat) (cs : List Value) (x : DataW H × List MemPlace), DataW.trod enc P W base sp held m t cs = some x →
    ∃ zs : List Int, zs.length = n ∧ cs = zs.map (Value.int .i64) ∧ x.2 = [] ∧ (∀ z ∈ zs, (Lit.int .i64 z).wf = true) ∧ ∀ (W' : World) (base' : Nat) (sp' : Nat → Bool), DataW.trod enc P W' base' sp' held m t cs = some x

theorem plain_int {t : TypeId} (ht : P.underlying t = some (.int .i64)) (hc : P.cellsOf t = 1) : PlainT enc P held t 1 := by
  refine ⟨hc, fun W base sp m cs x h => ?_⟩
  obtain ⟨a, rfl, rfl, wa⟩ := DataW.trod_int ht h
  refine ⟨[a], rfl, rfl, rfl, by simpa using wa, fun W' base' sp' => ?_⟩
  cases m with
  | zero => simp [DataW.trod] at h
  | succ m => simp [DataW.trod, ht, wa]

theorem plain_struct2 {t : TypeId} {fs : Array Field} {f0 f1 : Field} {n0 n1 : Nat} (ht : P.underlying t = some (.struct fs)) (hfs : fs.toList = [f0, f1]) (h0 : f0.offset = 0) (h1 : f1.offset = n0)
    (p0 : PlainT enc P held f0.type n0) (p1 : PlainT enc P held f1.type n1) (hc : P.cellsOf t = n0 + n1) : PlainT enc P held t (n0 + n1) := by
  refine ⟨hc, fun W base sp m cs x h => ?_⟩
  obtain ⟨c0, q0⟩ := p0
  obtain ⟨c1, q1⟩ := p1
  cases m with
  | zero => simp [DataW.trod] at h
  | succ m =>
    rw [DataW.trod_step] at h
    unfold DataW.trodStep at h
    simp only [ht] at h
    split at h
    · rename_i hl
      rw [hc] at hl
      simp only [hfs, List.mapM_cons, List.mapM_nil, bind, pure, h0, h1, c0, c1, List.drop_zero, Option.map_eq_some_iff, Option.bind_eq_some_iff, Option.some.injEq] at h
      obtain ⟨xs, ⟨y0, g0, ys, ⟨y1, g1, r, rfl, rfl⟩, rfl⟩, rfl⟩ := h
      obtain ⟨z0, a1, a2, a3, a4, a5⟩ := q0 _ _ _ _ _ _ g0
      obtain ⟨z1, b1, b2, b3, b4, b5⟩ := q1 _ _ _ _ _ _ g1
      have hcs : cs = (z0 ++ z1).map (Value.int .i64) := by
        rw [List.map_append, ← a2, ← b2, List.take_of_length_le (l := cs.drop n0) (by rw [List.length_drop]; omega), List.take_append_drop]
      refine ⟨z0 ++ z1, by simp [a1, b1], hcs, by simp [a3, b3], ?_, fun W' base' sp' => ?_⟩
      · intro z hz
        rcases List.mem_append.1 hz with hz | hz
        · exact a4 z hz
        · exact b4 z hz
      · rw [DataW.trod_step]
        unfold DataW.trodStep
        simp only [ht]
        rw [if_pos (by rw [hc]; exact hl)]
        simp only [hfs, List.mapM_cons, List.mapM_nil, bind, pure, h0, h1, c0, c1, List.drop_zero, a5 W' base' sp', b5 W' base' sp', Option.bind_some, Option.map_some]
    · cases h

/-- The two fields of a struct: their types, their places. -/
def twoF (P : Program) (t : TypeId) : Option (TypeId × Nat × TypeId × Nat) :=
  match P.underlying t with
  | some (.struct fs) => match fs.toList with
    | [f0, f1] => some (f0.type, f0.offset, f1.type, f1.offset)
    | _ => none
  | _ => none
theorem plain_two {t t0 t1 : TypeId} {n0 n1 : Nat} (h : twoF P t = some (t0, 0, t1, n0)) (p0 : PlainT enc P held t0 n0) (p1 : PlainT enc P held t1 n1) (hc : P.cellsOf t = n0 + n1) : PlainT enc P held t (n0 + n1) := by
  unfold twoF at h
  split at h
  · rename_i fs hu
    split at h
    · rename_i f0 f1 hl
      simp only [Option.some.injEq, Prod.mk.injEq] at h
      obtain ⟨rfl, h0, rfl, h1⟩ := h
      exact plain_struct2 hu hl h0 h1 p0 p1 hc
    · cases h
  · cases h
def isStruct (P : Program) (t : TypeId) : Bool :=
  match P.underlying t with
  | some (.struct _) => true
  | _ => false
theorem isStruct_spec {t : TypeId} (h : isStruct P t = true) : ∃ fs, P.underlying t = some (.struct fs) := by
  unfold isStruct at h
  split at h
  · rename_i fs hu; exact ⟨fs, hu⟩
  · cases h

theorem open_plain {t : TypeId} {n : Nat} (hs : isStruct P t = true) (hp : PlainT enc P held t n) {W : World} {base : Nat} {sp : Nat → Bool} {r : Reach} {b0 : Nat} {v : Value} {d : DataW H} {ps : List MemPlace}
    (hval : Value.okWide P W r b0 t v) (hd : DataW.Trod enc P W base sp held t v d ps) :
    ∃ zs : List Int, zs.length = n ∧ v = .agg (zs.map (Value.int .i64)).toArray ∧ ps = [] ∧ (∀ z ∈ zs, (Lit.int .i64 z).wf = true) ∧ ∀ (W' : World) (base' : Nat) (sp' : Nat → Bool), DataW.Trod enc P W' base' sp' held t v d [] := by
  obtain ⟨fs, ht⟩ := isStruct_spec hs
  simp only [Value.okWide, ht] at hval
  obtain ⟨cs, rfl, hsz, -⟩ := hval
  obtain ⟨fuel, hf⟩ := hd
  obtain ⟨zs, h1, h2, h3, h4, h5⟩ := hp.2 _ _ _ _ _ _ hf
  simp only [Value.cells] at h2 h5
  simp only at h3
  subst h3
  exact ⟨zs, h1, by rw [← h2], rfl, h4, fun W' base' sp' => ⟨fuel, h5 W' base' sp'⟩⟩
end
end Go.Lr
