/- The local evaluator's literals, function values, choices; what its operations name. -/
import Derived.Test.YtjbikokffafdbaaLrS4
namespace Go.Lr
open Go.RowKit

theorem fold_lay (o : Nat) : ∀ (vs : List Value) (k : Nat) (l : List Value), o + k + vs.length ≤ l.length →
    (vs.zipIdx k).foldl (fun (cs : Array Value) (x : Value × Nat) => cs.setIfInBounds (o + x.2) x.1) l.toArray = (l.take (o + k) ++ vs ++ l.drop (o + k + vs.length)).toArray
  | [], k, l, _ => by simp
  | v :: vs, k, l, h => by
    simp only [List.zipIdx_cons, List.foldl_cons, List.setIfInBounds_toArray]
    rw [fold_lay o vs (k + 1) (l.set (o + k) v) (by simp at h ⊢; omega)]
    have e := list_seg_step l (o + k) v vs (by simp at h ⊢; omega)
    simp only [List.length_cons]
    rw [show o + (k + 1) = o + k + 1 by omega, e, show o + k + (vs.length + 1) = o + k + 1 + vs.length by omega]

section
variable {P : Program} {E : Env} {τ : Nat → LV} {a : Act} {w : World} {g : Nat → Option Blk} {nb : Nat}

theorem fill_lay {cells r vs : List At} {o : Nat} (h : lay cells o vs = some r) :
    ((vs.map (At.den E)).toArray.zipIdx.foldl (fun (cs : Array Value) (x : Value × Nat) => cs.setIfInBounds (o + x.2) x.1) (cells.map (At.den E)).toArray) = (r.map (At.den E)).toArray := by
  obtain ⟨e, hl⟩ := lay_spec h
  have := fold_lay o (vs.map (At.den E)) 0 (cells.map (At.den E)) (by simpa using hl)
  rw [← Array.foldl_toList]
  simp only [Array.toList_zipIdx]
  rw [this]
  subst e
  simp

theorem fillS_spec {fs : List Field} (places : Array (Nat × Nat)) (hp : ∀ (i : Nat) (f : Field) (n : Nat), fs[i]? = some f → sizeT P f.type = some n → places[i]? = some (f.offset, n)) :
    ∀ {parts : List (Nat × LV)} {cells r : List At}, fillS P fs cells parts = some r →
      Instr.fill (places[·]?) (cells.map (At.den E)).toArray (parts.map fun q => (q.1, q.2.den E)) = some (r.map (At.den E)).toArray
  | [], cells, r, h => by simp only [fillS] at h; cases h; rfl
  | (i, v) :: rest, cells, r, h => by
    simp only [fillS] at h
    split at h
    · rename_i f vs hf hvs
      split at h
      · rename_i n hn
        split at h
        · rename_i r' hlen hlay
          rw [fieldAtL_spec] at hf
          rw [nbeq, len_eq] at hlen
          have hlen' : vs.length = n := by simpa using hlen
          obtain ⟨c1, _⟩ := cellsOfV_spec (E := E) hvs
          have ih := fillS_spec places hp h
          simp only [List.map_cons, Instr.fill, hp i f n hf hn, c1]
          obtain ⟨_, hle⟩ := lay_spec hlay
          rw [if_neg (by simp; omega)]
          rw [fill_lay hlay]
          exact ih
        · cases h
      · cases h
    · cases h

theorem fillA_spec {s : Nat} : ∀ {parts : List (Nat × LV)} {cells r : List At}, fillA s cells parts = some r →
      Instr.fill (fun i => some (i * s, s)) (cells.map (At.den E)).toArray (parts.map fun q => (q.1, q.2.den E)) = some (r.map (At.den E)).toArray
  | [], cells, r, h => by simp only [fillA] at h; cases h; rfl
  | (i, v) :: rest, cells, r, h => by
    simp only [fillA] at h
    split at h
    · rename_i vs hvs
      split at h
      · rename_i r' hlen hlay
        rw [nbeq, len_eq] at hlen
        have hlen' : vs.length = s := by simpa using hlen
        obtain ⟨c1, _⟩ := cellsOfV_spec (E := E) hvs
        have ih := fillA_spec h
        simp only [List.map_cons, Instr.fill, c1]
        obtain ⟨_, hle⟩ := lay_spec hlay
        rw [if_neg (by simp; omega)]
        rw [fill_lay hlay]
        exact ih
      · cases h
    · cases h

theorem fillS_ok {p : Nat → Bool} {fs : List Field} : ∀ {parts : List (Nat × LV)} {cells r : List At}, fillS P fs cells parts = some r → okL p cells = true → (∀ q ∈ parts, q.2.ok p = true) → okL p r = true
  | [], cells, r, h, hc, _ => by simp only [fillS] at h; cases h; exact hc
  | (i, v) :: rest, cells, r, h, hc, hq => by
    simp only [fillS] at h
    split at h
    · rename_i f vs hf hvs
      split at h
      · split at h
        · rename_i r' hlen hlay
          exact fillS_ok h (lay_ok hlay hc (cellsOfV_ok hvs (hq (i, v) (by simp)))) fun q hm => hq q (by simp [hm])
        · cases h
      · cases h
    · cases h

theorem fillA_ok {p : Nat → Bool} {s : Nat} : ∀ {parts : List (Nat × LV)} {cells r : List At}, fillA s cells parts = some r → okL p cells = true → (∀ q ∈ parts, q.2.ok p = true) → okL p r = true
  | [], cells, r, h, hc, _ => by simp only [fillA] at h; cases h; exact hc
  | (i, v) :: rest, cells, r, h, hc, hq => by
    simp only [fillA] at h
    split at h
    · rename_i vs hvs
      split at h
      · rename_i r' hlen hlay
        exact fillA_ok h (lay_ok hlay hc (cellsOfV_ok hvs (hq (i, v) (by simp)))) fun q hm => hq q (by simp [hm])
      · cases h
    · cases h

theorem allSz_spec : ∀ {fs : List Field}, allSz P fs = true → ∃ sz : Field → Nat, ∀ f ∈ fs, sizeT P f.type = some (sz f) := by
  intro fs h
  refine ⟨fun f => (sizeT P f.type).getD 0, ?_⟩
  induction fs with
  | nil => simp
  | cons f l ih =>
    simp only [allSz] at h
    split at h
    · rename_i n hn
      intro f' hf'
      rcases List.mem_cons.1 hf' with rfl | hf'
      · simp [hn]
      · exact ih h f' hf'
    · cases h

theorem mapM_run {α β : Type} (f : α → Sem β) (r : α → β) (w : World) : ∀ (l : List α), (∀ x ∈ l, (f x).run P w = .ok (r x) w) → (l.mapM f).run P w = .ok (l.map r) w
  | [], _ => by simp
  | x :: l, h => by
    simp only [List.mapM_cons, Sem.run_bind, h x (by simp), Result.andThen_ok, mapM_run f r w l fun y hy => h y (by simp [hy]), Sem.run_pure, List.map_cons]

theorem mapMA_run {α β : Type} (f : α → Sem β) (r : α → β) (w : World) (l : Array α) (h : ∀ x ∈ l.toList, (f x).run P w = .ok (r x) w) : (l.mapM f).run P w = .ok (l.map r) w := by
  rw [Array.mapM_eq_mapM_toList]
  have := mapM_run (P := P) f r w l.toList h
  rcases l with ⟨l⟩
  simp at this
  simp [this]

theorem buildD_spec {t : TypeId} {parts : List (Nat × LV)} {d : Dl} (h : buildD P t parts = some d) : Pur P E w (Instr.build t (parts.map fun q => (q.1, q.2.den E)).toArray) d := by
  unfold buildD at h
  split at h
  · rename_i z hz
    obtain ⟨zv, h1, h2, _⟩ := zeroT_spec hz w
    split at h
    · rename_i fs hu
      split at h
      · rename_i l hsz hl
        cases h
        refine .of_run ?_
        obtain ⟨sz, hszs⟩ := allSz_spec hsz
        have hm := mapMA_run (P := P) (fun f : Field => (do pure (f.offset, ← sizeOf f.type) : Sem (Nat × Nat))) (fun f => (f.offset, sz f)) w fs (fun f hf => by simp [sizeT_spec (hszs f hf)])
        have hf := fillS_spec (P := P) (E := E) (fs.map fun f => (f.offset, sz f)) (fs := fs.toList) (fun i f n hi hn => by
          have hi' : fs[i]? = some f := by simpa using hi
          have := hszs f (List.mem_of_getElem? hi)
          rw [hn] at this
          simp [hi', Option.some.inj this]) hl
        simp only [Instr.build, Sem.run_bind, h1, Result.andThen_ok, run_underlying hu, hm, h2 E]
        rw [hf]
        rfl
      · cases h
    · rename_i n e hu
      split at h
      · rename_i s hs
        split at h
        · rename_i l hl
          cases h
          refine .of_run ?_
          have hf := fillA_spec (E := E) hl
          simp only [Instr.build, Sem.run_bind, h1, Result.andThen_ok, run_underlying hu, sizeT_spec hs, h2 E]
          rw [hf]
          rfl
        · cases h
      · cases h
    · cases h
  · cases h

theorem repeatL_get (z : List At) (hz : 0 < z.length) : ∀ (n i : Nat), i < n * z.length → (repeatL z n)[i]? = z[i % z.length]?
  | 0, i, h => by omega
  | n + 1, i, h => by
    simp only [repeatL]
    by_cases hi : i < z.length
    · rw [List.getElem?_append_left hi, Nat.mod_eq_of_lt hi]
    · have e : i % z.length = (i - z.length) % z.length := Nat.mod_eq_sub_mod (by omega)
      rw [Nat.add_mul, Nat.one_mul] at h
      rw [List.getElem?_append_right (by omega), repeatL_get z hz n (i - z.length) (by omega), e]

theorem repeatL_len (z : List At) : ∀ n, (repeatL z n).length = n * z.length
  | 0 => by simp [repeatL]
  | n + 1 => by simp [repeatL, repeatL_len z n, Nat.add_mul, Nat.add_comm]

theorem repeatL_ok {p : Nat → Bool} {z : List At} (h : okL p z = true) : ∀ n, okL p (repeatL z n) = true
  | 0 => rfl
  | n + 1 => by
    rw [okL_iff] at *
    intro x hx
    simp only [repeatL, List.mem_append] at hx
    rcases hx with hx | hx
    · exact h x hx
    · exact okL_iff.1 (repeatL_ok (okL_iff.2 h) n) x hx

theorem buildSliceD_step {p : Nat → Bool} {o : Oper} {t : TypeId} {n : Nat} {ps : Array (Nat × Operand)} {parts : List (Nat × LV)} {d : Dl} (ho : o.op = .buildSlice t n ps)
    (hps : ps.toList.map (fun (i, x) => (i, a.eval x)) = parts.map fun q => (q.1, q.2.den E)) (hpo : ∀ q ∈ parts, q.2.ok p = true)
    (h : buildSliceD P nb t n parts = some d) (hr : Rel E g w) (hg : ∀ i c, g i = some c → p i = true ∧ okL p c.cells = true) (hn : ∀ i, nb ≤ i → i < nb + d.nw.length → p i = false) : StepOK P o a w E g nb d := by
  unfold buildSliceD at h
  split at h
  · rename_i e hu
    split at h
    · rename_i s z hs hz
      split at h
      · rename_i l hb hzl hs1 hl
        cases h
        intro _ K Q hk
        rw [nble] at hb hs1
        rw [nbeq, len_eq] at hzl
        have hb' : n * s ≤ 16777216 := by simpa using hb
        have hs1' : 1 ≤ s := by simpa using hs1
        have hzl' : z.length = s := by simpa using hzl
        obtain ⟨zv, h1, h2, h3⟩ := zeroT_spec hz w
        have hf := fillA_spec (E := E) hl
        have hps' : (ps.map fun (i, x) => (i, a.eval x)).toList = parts.map fun q => (q.1, q.2.den E) := by rw [← hps]; simp
        have hzero : (Array.range (n * s)).map ((z.map (At.den E)).toArray[· % (z.map (At.den E)).toArray.size]!) = ((repeatL z n).map (At.den E)).toArray := by
          apply Array.ext
          · simp [repeatL_len, hzl']
          · intro i hi1 hi2
            have hi : i < n * s := by simpa using hi1
            have hlt : i % s < z.length := by rw [hzl']; exact Nat.mod_lt _ hs1'
            have hget := repeatL_get z (by omega) n i (by rw [hzl']; exact hi)
            rw [hzl', List.getElem?_eq_getElem hlt] at hget
            have hlt2 : i < (repeatL z n).length := by rw [repeatL_len, hzl']; exact hi
            rw [List.getElem?_eq_getElem hlt2] at hget
            have hget' := Option.some.inj hget
            have hsz : i % (z.map (At.den E)).toArray.size < (z.map (At.den E)).toArray.size := by simpa [hzl'] using Nat.mod_lt i hs1'
            simp only [Array.getElem_map, Array.getElem_range]
            rw [getElem!_pos (z.map (At.den E)).toArray (i % (z.map (At.den E)).toArray.size) hsz]
            simp only [List.getElem_toArray, List.getElem_map, hget']
            simp [hzl']
        have hrun : (Instr.buildSlice t n (ps.map fun (i, x) => (i, a.eval x))).run P w = .ok (.slice (some ⟨w.heap.size, 0, none⟩) n n) (w.alloc (.cells (l.map (At.den E)).toArray e)) := by
          simp only [Instr.buildSlice, Sem.run_bind, run_underlying hu, Result.andThen_ok, sizeT_spec hs]
          rw [if_neg (by omega)]
          simp only [Sem.run_bind, Sem.run_ite, Sem.run_pure, h1, Result.andThen_ok, h2 E]
          by_cases h0 : n * s = 0
          · have hn0 : n = 0 := by
              rcases Nat.mul_eq_zero.1 h0 with h | h
              · exact h
              · omega
            subst hn0
            simp only [Nat.zero_mul, if_true]
            simp only [repeatL, List.map_nil] at hf
            rw [hps']
            have he : (Array.range 0).map (fun x => (#[] : Array Value)[x % (#[] : Array Value).size]!) = #[] := by simp
            rw [he, hf]
            rfl
          · simp only [if_neg h0]
            rw [hzero, hps', hf]
            rfl
        unfold Oper.wp execOp
        simp only [ho, Sem.run_bind, hrun, Result.andThen_ok, Sem.run_pure]
        have := hk _ _ (post_new (v := .v (.one (.sl nb 0 n n))) (cs := []) (rd := []) (b := ⟨e, (0, 0), 0, l⟩) hr hg (hn nb (Nat.le_refl _) (by simp)) (fillA_ok hl (repeatL_ok (h3 p) n) hpo) rfl rfl)
        simpa [LV.den, V1.den, At.den, Oper.upon] using this
      · cases h
    · cases h
  · cases h

theorem ptrsOf_spec : ∀ {l : List LV} {r : List (Nat × Nat)}, ptrsOf l = some r → l.map (LV.den E) = r.map fun p => Value.pointer (some ⟨(E p.1).1, p.2, none⟩)
  | [], r, h => by cases h; rfl
  | x :: l, r, h => by
    unfold ptrsOf at h
    split at h
    · rename_i he; cases he
    · rename_i b o l' he
      cases he
      split at h
      · rename_i r' hr
        cases h
        simp [ptrsOf_spec hr, den_ptr]
      · cases h
    · cases h

theorem ptrsOf_ok {p : Nat → Bool} : ∀ {l : List LV} {r : List (Nat × Nat)}, ptrsOf l = some r → (∀ v ∈ l, v.ok p = true) → ∀ q ∈ r, p q.1 = true
  | [], r, h, _ => by cases h; simp
  | x :: l, r, h, hl => by
    unfold ptrsOf at h
    split at h
    · rename_i he; cases he
    · rename_i b o l' he
      cases he
      split at h
      · rename_i r' hr
        cases h
        simp only [List.mem_cons, forall_eq_or_imp]
        exact ⟨hl (.v (.one (.ptr b o))) (by simp), ptrsOf_ok hr fun v hv => hl v (by simp [hv])⟩
      · cases h
    · cases h

theorem makeFuncD_spec {f : Fn} {first : List Operand} {caps : List LV} {d : Dl} (h : makeFuncD f first caps = some d) :
    Pur P E w (Instr.makeFunc f (first.map a.eval).toArray (caps.map (LV.den E)).toArray) d := by
  unfold makeFuncD at h
  split at h
  · rename_i f' l hl
    refine pur_val1 h ?_
    simp [Instr.makeFunc, At.den, ptrsOf_spec (E := E) hl]
  · cases h

theorem isTrue_spec {pd : Option Bool} {t b : Bool} {cs : List (Bool × Bool)} (h : isTrue pd t = some (b, cs)) (hc : ∀ c ∈ cs, c.1 = c.2) : t = b := by
  unfold isTrue at h
  split at h
  · cases h; exact hc (t, b) (by simp)
  · cases h; rfl
  · cases h; rfl

theorem pickD_spec (hτ : ∀ t, a.eval (.tmp t) = (τ t).den E) {pd : Option Bool} {c x y : Operand} {d : Dl} (h : pickD τ pd c x y = some d) :
    d.wr = [] ∧ d.nw = [] ∧ ((∀ c ∈ d.cs, c.1 = c.2) → (do pure (.value (if ← asBool (a.eval c) then a.eval x else a.eval y)) : Sem Next).run P w = .ok (.value (d.val.den E)) w) := by
  unfold pickD at h
  split at h
  · rename_i t ht
    have hcv := ev_spec hτ ht
    split at h
    · rename_i cs hb
      split at h
      · rename_i v hv
        cases h
        refine ⟨rfl, rfl, fun hc => ?_⟩
        have := isTrue_spec hb hc
        subst this
        rw [hcv, ← ev_spec hτ hv]
        simp [LV.den, V1.den, At.den, asBool]
      · cases h
    · rename_i cs hb
      split at h
      · rename_i v hv
        cases h
        refine ⟨rfl, rfl, fun hc => ?_⟩
        have := isTrue_spec hb hc
        subst this
        rw [hcv, ← ev_spec hτ hv]
        simp [LV.den, V1.den, At.den, asBool]
      · cases h
    · cases h
  · cases h

end
end Go.Lr
