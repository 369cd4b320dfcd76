/- The local evaluator's memory, against the model's. -/
import Derived.Test.YtjbikokffafdbaaLrS3
namespace Go.Lr
open Go.RowKit

/-- The blocks behind what an operation writes, and behind what it makes. -/
def wrG (g : Nat → Option Blk) : List (Nat × Option Blk) → Nat → Option Blk
  | [] => g
  | (i, s) :: l => wrG (fun j => if j = i then s else g j) l
def nwG (g : Nat → Option Blk) (nb : Nat) : List Blk → Nat → Option Blk
  | [] => g
  | b :: l => nwG (fun j => if j = nb then some b else g j) (nb + 1) l

/-- One block's cells lie in the world. -/
def blkAt (E : Env) (i : Nat) (b : Blk) (w : World) : Prop :=
  ∃ r : List Value, w.heap[(E i).1]? = some (.cells (b.cells.map (At.den E) ++ r).toArray b.ty b.fr) ∧ (b.es = 0 → r = []) ∧ (b.es ≠ 0 → b.cells.length + r.length = (E i).2 * b.es)

structure Rel (E : Env) (g : Nat → Option Blk) (w : World) : Prop where
  blk : ∀ i b, g i = some b → blkAt E i b w
  inj : ∀ i j, (g i).isSome → (g j).isSome → (E i).1 = (E j).1 → i = j

structure Post (w : World) (E : Env) (g : Nat → Option Blk) (nb : Nat) (d : Dl) (E' : Env) (w' : World) : Prop where
  agree : ∀ i, i < nb ∨ nb + d.nw.length ≤ i → E' i = E i
  rel : Rel E' (nwG (wrG g d.wr) nb d.nw) w'
  os : w'.os = w.os
  tape : w'.tape = w.tape
  output : w'.output = w.output
  size : w.heap.size ≤ w'.heap.size
  frame : ∀ b, b < w.heap.size → (∀ i, (g i).isSome → (E i).1 ≠ b) → w'.heap[b]? = w.heap[b]?
  fresh : ∀ i, nb ≤ i → i < nb + d.nw.length → w.heap.size ≤ (E' i).1 ∨ ∃ j, (g j).isSome ∧ (E' i).1 = (E j).1

/-- An operation does in the model what the evaluator says. -/
def StepOK (P : Program) (o : Oper) (a : Act) (w : World) (E : Env) (g : Nat → Option Blk) (nb : Nat) (d : Dl) : Prop :=
  (∀ c ∈ d.cs, c.1 = c.2) → ∀ (K : Act → World → Prop) (Q : Exit → Act → World → Prop),
    (∀ E' w', Post w E g nb d E' w' → K (a.put o.dst (d.val.den E')) w') → o.wp P a w K Q

section
variable {P : Program} {E : Env} {τ : Nat → LV} {a : Act} {w : World} {g : Nat → Option Blk} {nb : Nat}

theorem Post.refl {d : Dl} (h1 : d.wr = []) (h2 : d.nw = []) (hr : Rel E g w) : Post w E g nb d E w := by
  refine ⟨fun _ _ => rfl, ?_, rfl, rfl, rfl, Nat.le_refl _, fun _ _ _ => rfl, fun i h1' h2' => ?_⟩
  · rw [h1, h2]; exact hr
  · rw [h2] at h2'; simp at h2'; omega

theorem StepOK.of_pur {o : Oper} {s : Sem Value} {d : Dl} (hr : Rel E g w) (h : Pur P E w s d)
    (ho : execOp a.eval o = (do pure (.value (← s)))) : StepOK P o a w E g nb d := by
  intro hc K Q hk
  unfold Oper.wp
  rw [ho]
  simp only [Sem.run_bind, h.run hc, Result.andThen_ok, Sem.run_pure]
  exact hk E w (.refl h.wr h.nw hr)

theorem cell_one {x : At} (h : x.cell = true) : (x.den E).cells = #[x.den E] ∧ (x.den E).oneCell' = true := by
  cases x with
  | opq v => cases v <;> simp_all [At.cell, At.den, Value.cells, Value.oneCell']
  | _ => exact ⟨rfl, rfl⟩

theorem cellsOfV_spec {v : LV} {l : List At} (h : cellsOfV v = some l) : (v.den E).cells = (l.map (At.den E)).toArray ∧ (∀ x ∈ l.map (At.den E), x.oneCell' = true) := by
  unfold cellsOfV at h
  split at h
  · split at h
    · rename_i x hx
      cases h
      obtain ⟨h1, h2⟩ := cell_one (E := E) hx
      exact ⟨by simp [LV.den, V1.den, h1], by simpa using h2⟩
    · cases h
  · split at h
    · rename_i x hx
      cases h
      refine ⟨rfl, fun y hy => ?_⟩
      obtain ⟨z, hz, rfl⟩ := List.mem_map.1 hy
      exact (cell_one (allCell_iff.1 hx z hz)).2
    · cases h
  · cases h

theorem cellsOfV_ok {p : Nat → Bool} {v : LV} {l : List At} (h : cellsOfV v = some l) (hv : v.ok p = true) : okL p l = true := by
  unfold cellsOfV at h
  split at h
  · split at h
    · cases h; exact okL_iff.2 fun y hy => by rw [List.mem_singleton] at hy; subst hy; exact hv
    · cases h
  · split at h
    · cases h; exact hv
    · cases h
  · cases h

theorem zeroT_spec {t : TypeId} {l : List At} (h : zeroT P t = some l) (w : World) :
    ∃ z, (zeroValue t).run P w = .ok z w ∧ (∀ E, z.cells = (l.map (At.den E)).toArray) ∧ (∀ p, okL p l = true) := by
  unfold zeroT at h
  split at h
  · rename_i i hi
    split at h
    · rename_i z hz
      have hrun : (zeroValue t).run P w = .ok z w := by simp [zeroValue, typeInfo, hi, hz]
      split at h
      · rename_i x hx
        cases h
        refine ⟨z, hrun, fun E => ?_, fun p => ?_⟩
        · obtain ⟨h1, h2⟩ := ofVal_spec hx
          have hc : x.cell = true := by
            unfold ofVal at hx
            split at hx
            · split at hx <;> cases hx
            · split at hx
              · rename_i y hy; cases hx; exact (ofAtom_spec hy).2.2
              · cases hx
          rw [← h1 E]
          simpa [V1.den] using (cell_one (E := E) hc).1
        · exact okL_iff.2 fun y hy => by rw [List.mem_singleton] at hy; subst hy; exact (ofVal_spec hx).2 p
      · rename_i x hx
        cases h
        refine ⟨z, hrun, fun E => ?_, fun p => (ofVal_spec hx).2 p⟩
        rw [← (ofVal_spec hx).1 E]
        rfl
      · cases h
    · cases h
  · cases h

-- a new block
theorem rel_new {p : Nat → Bool} {b : Blk} (hr : Rel E g w) (hg : ∀ i c, g i = some c → p i = true ∧ okL p c.cells = true) (hn : p nb = false) (hb : okL p b.cells = true)
    (hes : b.es = 0) (hfr : b.fr = (0, 0)) :
    Rel (fun i => if i = nb then (w.heap.size, 0) else E i) (fun j => if j = nb then some b else g j) (w.alloc (.cells (b.cells.map (At.den E)).toArray b.ty)) := by
  have hag : ∀ i, p i = true → (fun i => if i = nb then (w.heap.size, 0) else E i) i = E i := by
    intro i hi
    have : i ≠ nb := fun e => by rw [e, hn] at hi; cases hi
    simp [this]
  have hlt : ∀ i c, g i = some c → (E i).1 < w.heap.size := by
    intro i c hc
    obtain ⟨r, h1, _⟩ := hr.blk i c hc
    exact (Array.getElem?_eq_some_iff.1 h1).1
  refine ⟨fun i c hc => ?_, fun i j hi hj he => ?_⟩
  · by_cases hin : i = nb
    · subst hin
      simp only [if_true, Option.some.injEq] at hc
      subst hc
      refine ⟨[], ?_, fun _ => rfl, fun h => absurd hes h⟩
      simp only [if_true, List.append_nil]
      rw [denL_congr hag hb, hfr]
      show (w.heap.push _)[w.heap.size]? = _
      simp
    · simp only [if_neg hin] at hc
      obtain ⟨r, h1, h2, h3⟩ := hr.blk i c hc
      refine ⟨r, ?_, h2, ?_⟩
      · rw [denL_congr hag (hg i c hc).2]
        simp only [if_neg hin]
        rw [Below.heap_alloc _ _ _ (hlt i c hc)]
        exact h1
      · simpa [if_neg hin] using h3
  · by_cases hin : i = nb
    · by_cases hjn : j = nb
      · rw [hin, hjn]
      · simp only [if_neg hjn, hin, if_true] at hj he
        obtain ⟨c, hc⟩ := Option.isSome_iff_exists.1 hj
        have := hlt j c hc
        omega
    · by_cases hjn : j = nb
      · simp only [if_neg hin, hjn, if_true] at hi he
        obtain ⟨c, hc⟩ := Option.isSome_iff_exists.1 hi
        have := hlt i c hc
        omega
      · simp only [if_neg hin, if_neg hjn] at hi hj he
        exact hr.inj i j hi hj he

theorem post_new {p : Nat → Bool} {b : Blk} {v : LV} {cs : List (Bool × Bool)} {rd : List Nat} (hr : Rel E g w) (hg : ∀ i c, g i = some c → p i = true ∧ okL p c.cells = true) (hn : p nb = false) (hb : okL p b.cells = true)
    (hes : b.es = 0) (hfr : b.fr = (0, 0)) :
    Post w E g nb ⟨v, [], [b], rd, cs⟩ (fun i => if i = nb then (w.heap.size, 0) else E i) (w.alloc (.cells (b.cells.map (At.den E)).toArray b.ty)) := by
  refine ⟨fun i hi => ?_, rel_new hr hg hn hb hes hfr, rfl, rfl, rfl, by simp, fun k hk _ => Below.heap_alloc _ _ _ hk, fun i h1 h2 => ?_⟩
  · simp at hi; rw [if_neg (by omega)]
  · simp at h2; left; rw [if_pos (by omega)]; exact Nat.le_refl _

theorem allocD_step {p : Nat → Bool} {o : Oper} {t : TypeId} {d : Dl} (ho : o.op = .alloc t) (h : allocD P nb t = some d) (hr : Rel E g w) (hg : ∀ i c, g i = some c → p i = true ∧ okL p c.cells = true) (hn : ∀ i, nb ≤ i → i < nb + d.nw.length → p i = false) :
    StepOK P o a w E g nb d := by
  unfold allocD at h
  split at h
  · rename_i l hl
    cases h
    intro _ K Q hk
    obtain ⟨z, h1, h2, h3⟩ := zeroT_spec hl w
    unfold Oper.wp execOp
    simp only [ho, Sem.run_bind, Instr.alloc, h1, Result.andThen_ok, newVar, newRow, run_newObj_alloc, Sem.run_pure, h2 E]
    have := hk _ _ (post_new (v := .v (.one (.ptr nb 0))) (cs := []) (rd := []) (b := ⟨t, (0, 0), 0, l⟩) hr hg (hn nb (Nat.le_refl _) (by simp)) (h3 p) rfl rfl)
    simpa [LV.den, V1.den, At.den, Oper.upon] using this
  · cases h

theorem boxD_step {p : Nat → Bool} {o : Oper} {t : TypeId} {x : Operand} {v : LV} {d : Dl} (ho : o.op = .box t x) (hx : a.eval x = v.den E) (hv : v.ok p = true) (h : boxD nb t v = some d) (hr : Rel E g w)
    (hg : ∀ i c, g i = some c → p i = true ∧ okL p c.cells = true) (hn : ∀ i, nb ≤ i → i < nb + d.nw.length → p i = false) : StepOK P o a w E g nb d := by
  unfold boxD at h
  split at h
  · rename_i l hl
    cases h
    intro _ K Q hk
    obtain ⟨h1, _⟩ := cellsOfV_spec (E := E) hl
    unfold Oper.wp execOp
    simp only [ho, Sem.run_bind, Instr.box, hx, Result.andThen_ok, newVar, newRow, run_newObj_alloc, Sem.run_pure, h1]
    have := hk _ _ (post_new (v := .v (.one (.ptr nb 0))) (cs := []) (rd := []) (b := ⟨t, (0, 0), 0, l⟩) hr hg (hn nb (Nat.le_refl _) (by simp)) (cellsOfV_ok hl hv) rfl rfl)
    simpa [LV.den, V1.den, At.den, Oper.upon] using this
  · cases h

theorem den_ptr (b o : Nat) : (LV.v (V1.one (At.ptr b o))).den E = .pointer (some ⟨(E b).1, o, none⟩) := rfl

-- a load
theorem blkAt_cell {i : Nat} {b : Blk} (h : blkAt E i b w) {o : Nat} {x : At} (hx : b.cells[o]? = some x) : w.cell? ⟨(E i).1, o, none⟩ = some (x.den E) := by
  obtain ⟨r, h1, _⟩ := h
  have hlt : o < b.cells.length := (List.getElem?_eq_some_iff.1 hx).1
  simp only [World.cell?, h1]
  have he : b.cells[o] = x := by rw [List.getElem?_eq_getElem hlt] at hx; exact Option.some.inj hx
  simp [List.getElem?_append_left, hlt, he]

theorem loadVar_spec {t : TypeId} {i o : Nat} {b : Blk} {x : V1} (hb : blkAt E i b w) (h : partV P t b.cells o = some x) : (loadVar t ⟨(E i).1, o, none⟩).run P w = .ok (x.den E) w := by
  unfold partV at h
  split at h
  · rename_i ha
    split at h
    · rename_i n hn
      split at h
      · rename_i r hr
        cases h
        obtain ⟨e, hl⟩ := cut_spec hr
        have hlen : (r.map (At.den E)).length = n := by rw [e]; simp; omega
        have := run_loadCells_list (P := P) w ⟨(E i).1, o, none⟩ (r.map (At.den E)) (fun j v hv => by
          simp only [List.getElem?_map, Option.map_eq_some_iff] at hv
          obtain ⟨y, hy, rfl⟩ := hv
          rw [addr_add]
          refine blkAt_cell hb ?_
          rw [e] at hy
          have hj : j < n := by
            have := (List.getElem?_eq_some_iff.1 hy).1
            simp at this; omega
          rw [List.getElem?_take_of_lt hj, List.getElem?_drop] at hy
          exact hy)
        rw [hlen] at this
        simp [loadVar, aggT_spec ha, sizeT_spec hn, this, V1.den]
      · cases h
    · cases h
  · rename_i ha
    split at h
    · rename_i y hy
      cases h
      rw [atL_spec] at hy
      have := blkAt_cell hb hy
      simp [loadVar, aggT_spec ha, this, V1.den]
    · cases h
  · cases h

theorem loadD_spec {t : TypeId} {v : LV} {d : Dl} (hr : Rel E g w) (h : loadD P t v g = some d) : Pur P E w (Instr.loadAt t (v.den E)) d := by
  unfold loadD at h
  split at h
  · rename_i b o
    split at h
    · rename_i k hk
      split at h
      · rename_i x hx
        cases h
        have := loadVar_spec (hr.blk b k hk) hx
        exact ⟨rfl, rfl, fun _ => by simp [Instr.loadAt, LV.den, V1.den, At.den, Instr.sureAddr, this]⟩
      · cases h
    · cases h
  · cases h

theorem storeD_step {o : Oper} {t : TypeId} {x y : Operand} {u v : LV} {d : Dl} (ho : o.op = .store t x y) (hx : a.eval x = u.den E) (hy : a.eval y = v.den E)
    (h : storeD P t u v g = some d) (hr : Rel E g w) : StepOK P o a w E g nb d := by
  unfold storeD at h
  split at h
  · rename_i b off
    split at h
    · rename_i ty es l hk
      split at h
      · rename_i vs n hvs hn
        split at h
        · rename_i r hlen hlay
          cases h
          intro _ K Q hk'
          obtain ⟨c1, c2⟩ := cellsOfV_spec (E := E) hvs
          obtain ⟨e, hle⟩ := lay_spec hlay
          obtain ⟨rest, h1, h2, h3⟩ := hr.blk b _ hk
          rw [nbeq, len_eq] at hlen
          have hlen' : vs.length = n := by simpa using hlen
          have hst := run_storeCells_at P (E b).1 off ty (vs.map (At.den E)) 0 (l.map (At.den E) ++ rest).toArray w h1 (by simp; omega) c2
          have hrun : (Instr.storeAt t (a.eval x) (a.eval y)).run P w = .ok () (w.setRow (E b).1 ((r.map (At.den E)) ++ rest).toArray) := by
            rw [hx, hy, den_ptr]
            simp only [Instr.storeAt, Instr.sureAddr, Sem.run_bind, Sem.run_pure, Result.andThen_ok, storeVar, sizeT_spec hn]
            rw [c1]
            simp only [List.size_toArray, List.length_map, hlen', ne_eq, not_true_eq_false, if_false]
            rw [hst]
            congr 3
            subst e
            simp [List.take_append_of_le_length, List.drop_append_of_le_length, hle, Nat.le_trans (Nat.le_add_right _ _) hle]
          unfold Oper.wp execOp
          simp only [ho, Sem.run_bind, hrun, Result.andThen_ok, Sem.run_pure]
          have hr2 : Rel E (nwG (wrG g [(b, some ⟨ty, (0, 0), es, r⟩)]) nb []) (w.setRow (E b).1 ((r.map (At.den E)) ++ rest).toArray) := by
            refine ⟨fun i c hc => ?_, fun i j hi hj he => hr.inj i j ?_ ?_ he⟩
            · simp only [nwG, wrG] at hc
              by_cases hib : i = b
              · subst hib
                simp only [if_true, Option.some.injEq] at hc
                subst hc
                refine ⟨rest, setRow_heap w _ _ _ ty (0, 0) h1, h2, fun hh => ?_⟩
                have := h3 hh
                subst e
                simp at this ⊢
                omega
              · simp only [if_neg hib] at hc
                obtain ⟨r', g1, g2, g3⟩ := hr.blk i c hc
                refine ⟨r', ?_, g2, g3⟩
                rw [setRow_other]
                · exact g1
                · intro hh
                  exact hib (hr.inj i b (by simp [hc]) (by simp [hk]) hh)
            · simp only [nwG, wrG] at hi
              by_cases hib : i = b
              · subst hib; simp [hk]
              · simpa [if_neg hib] using hi
            · simp only [nwG, wrG] at hj
              by_cases hib : j = b
              · subst hib; simp [hk]
              · simpa [if_neg hib] using hj
          exact hk' E _ ⟨fun _ _ => rfl, hr2, rfl, rfl, rfl, by simp [World.setRow], fun k _ hne => setRow_other _ _ _ _ (fun hh => hne b (by simp [hk]) hh.symm), fun i i1 i2 => by simp at i2; omega⟩
        · cases h
      · cases h
    · cases h
  · cases h

end
end Go.Lr
