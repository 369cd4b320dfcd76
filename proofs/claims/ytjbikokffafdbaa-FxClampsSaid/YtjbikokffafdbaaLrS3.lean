/- The local evaluator's operations on structs, arrays, addresses, slices, against the model's. -/
import Derived.Test.YtjbikokffafdbaaLrS2
namespace Go.Lr

theorem cut_spec : ∀ {l : List At} {o n : Nat} {r : List At}, cut l o n = some r → r = (l.drop o).take n ∧ o + n ≤ l.length
  | l, 0, 0, r, h => by cases l <;> (simp only [cut] at h; cases h; simp)
  | [], 0, n + 1, r, h => by simp [cut] at h
  | a :: l, 0, n + 1, r, h => by
    simp only [cut] at h
    split at h
    · rename_i r' hr
      cases h
      obtain ⟨h1, h2⟩ := cut_spec hr
      subst h1
      simp at h2 ⊢; omega
    · cases h
  | [], o + 1, n, r, h => by simp [cut] at h
  | a :: l, o + 1, n, r, h => by
    simp only [cut] at h
    obtain ⟨h1, h2⟩ := cut_spec h
    subst h1
    simp; omega

theorem atL_spec : ∀ {l : List At} {o : Nat}, atL l o = l[o]?
  | [], _ => by simp [atL]
  | a :: l, 0 => by simp [atL]
  | a :: l, o + 1 => by simp [atL, atL_spec (l := l)]

theorem len_eq : ∀ (l : List At), len l = l.length
  | [] => rfl
  | a :: l => by simp [len, len_eq l]
theorem lenB_eq : ∀ (l : List Blk), lenB l = l.length
  | [] => rfl
  | a :: l => by simp [lenB, lenB_eq l]
theorem lenL_eq : ∀ (l : List LV), lenL l = l.length
  | [] => rfl
  | a :: l => by simp [lenL, lenL_eq l]

theorem fieldAtL_spec : ∀ {l : List Field} {o : Nat}, fieldAtL l o = l[o]?
  | [], _ => by simp [fieldAtL]
  | a :: l, 0 => by simp [fieldAtL]
  | a :: l, o + 1 => by simp [fieldAtL, fieldAtL_spec (l := l)]

theorem allCell_iff : ∀ {l : List At}, allCell l = true ↔ ∀ a ∈ l, a.cell = true
  | [] => by simp [allCell]
  | a :: l => by
    simp only [allCell, List.mem_cons, forall_eq_or_imp]
    cases h : a.cell <;> simp [allCell_iff (l := l)]

/-- Laying cells over others. -/
theorem lay_spec : ∀ {l : List At} {o : Nat} {vs r : List At}, lay l o vs = some r → r = l.take o ++ vs ++ l.drop (o + vs.length) ∧ o + vs.length ≤ l.length
  | l, 0, [], r, h => by cases l <;> (simp only [lay] at h; cases h; simp)
  | [], 0, v :: vs, r, h => by simp [lay] at h
  | a :: l, 0, v :: vs, r, h => by
    simp only [lay] at h
    split at h
    · rename_i r' hr
      cases h
      obtain ⟨h1, h2⟩ := lay_spec hr
      subst h1
      simp at h2 ⊢; omega
    · cases h
  | [], o + 1, vs, r, h => by cases vs <;> simp [lay] at h
  | a :: l, o + 1, vs, r, h => by
    have h' : ∃ r', lay l o vs = some r' ∧ r = a :: r' := by
      cases vs <;>
      · simp only [lay] at h
        split at h
        · rename_i r' hr
          cases h
          exact ⟨r', hr, rfl⟩
        · cases h
    obtain ⟨r', hr, rfl⟩ := h'
    obtain ⟨h1, h2⟩ := lay_spec hr
    subst h1
    refine ⟨?_, by simp only [List.length_cons]; omega⟩
    rw [show o + 1 + vs.length = (o + vs.length) + 1 by omega]
    simp

theorem lay_ok {p : Nat → Bool} {l : List At} {o : Nat} {vs r : List At} (h : lay l o vs = some r) (h1 : okL p l = true) (h2 : okL p vs = true) : okL p r = true := by
  obtain ⟨e, _⟩ := lay_spec h
  subst e
  rw [okL_iff] at *
  intro a ha
  simp only [List.mem_append] at ha
  rcases ha with (ha | ha) | ha
  · exact h1 a (List.mem_of_mem_take ha)
  · exact h2 a ha
  · exact h1 a (List.mem_of_mem_drop ha)

theorem cut_ok {p : Nat → Bool} {l : List At} {o n : Nat} {r : List At} (h : cut l o n = some r) (h1 : okL p l = true) : okL p r = true := by
  obtain ⟨e, _⟩ := cut_spec h
  subst e
  rw [okL_iff] at *
  exact fun a ha => h1 a (List.mem_of_mem_drop (List.mem_of_mem_take ha))

section
variable {P : Program} {E : Env} {τ : Nat → LV} {a : Act} {w : World}

theorem sizeT_spec {t : TypeId} {n : Nat} (h : sizeT P t = some n) (w : World) : (sizeOf t).run P w = .ok n w := by
  unfold sizeT at h
  split at h
  · rename_i i hi
    cases h
    simp [sizeOf, typeInfo, hi]
  · cases h

theorem aggT_spec {t : TypeId} {b : Bool} (h : aggT P t = some b) (w : World) : (isAgg t).run P w = .ok b w := by
  unfold aggT at h
  split at h
  · rename_i hu; cases h; simp [isAgg, run_underlying hu]
  · rename_i hu; cases h; simp [isAgg, run_underlying hu]
  · rename_i d h1 h2 hu
    cases h
    simp only [isAgg, Sem.run_bind, run_underlying hu, Result.andThen_ok]
    cases d <;> simp
    all_goals first | exact absurd hu (h2 _ _) | exact absurd hu (h1 _)
  · cases h

theorem partV_spec {t : TypeId} {l : List At} {o : Nat} {x : V1} (h : partV P t l o = some x) (w : World) :
    (part t (l.map (At.den E)).toArray o).run P w = .ok (x.den E) w := by
  unfold partV at h
  split at h
  · rename_i ha
    split at h
    · rename_i n hn
      split at h
      · rename_i r hr
        cases h
        obtain ⟨e, hl⟩ := cut_spec hr
        simp only [part, Sem.run_bind, aggT_spec ha, Result.andThen_ok, if_true, sizeT_spec hn, Sem.run_pure, V1.den]
        subst e
        congr 2
        simp [List.map_take, List.map_drop, List.take_drop]
      · cases h
    · cases h
  · rename_i ha
    split at h
    · rename_i y hy
      cases h
      rw [atL_spec] at hy
      simp only [part, Sem.run_bind, aggT_spec ha, Result.andThen_ok, V1.den]
      have : (l.map (At.den E)).toArray[o]? = some (y.den E) := by simp [hy]
      simp [this]
    · cases h
  · cases h

theorem partV_ok {p : Nat → Bool} {t : TypeId} {l : List At} {o : Nat} {x : V1} (h : partV P t l o = some x) (hl : okL p l = true) : x.ok p = true := by
  unfold partV at h
  split at h
  · split at h
    · split at h
      · rename_i r hr
        cases h
        exact cut_ok hr hl
      · cases h
    · cases h
  · split at h
    · rename_i y hy
      cases h
      rw [atL_spec] at hy
      exact okL_iff.1 hl y (List.mem_of_getElem? hy)
    · cases h
  · cases h

theorem Pur.of_run {s : Sem Value} {x : LV} (h : s.run P w = .ok (x.den E) w) : Pur P E w s (.pure x) := ⟨rfl, rfl, fun _ => h⟩

theorem fieldD_spec {t : TypeId} {x : LV} {i : Nat} {d : Dl} (h : fieldD P t x i = some d) : Pur P E w (Instr.field t (x.den E) i) d := by
  unfold fieldD at h
  split at h
  · rename_i fs l hu
    split at h
    · rename_i f hf
      split at h
      · rename_i v hv
        cases h
        rw [fieldAtL_spec] at hf
        refine .of_run ?_
        have hf' : fs[i]? = some f := by simpa using hf
        have hpv := partV_spec (E := E) hv w
        simp [Instr.field, run_underlying hu, hf', LV.den, V1.den, asAgg]
        exact hpv
      · cases h
    · cases h
  · cases h

theorem inB_spec {i : Int} {n k : Nat} (h : inB i n = some k) : i = (k : Int) ∧ k < n := by
  unfold inB at h
  split at h
  · split at h
    · rename_i hk; cases h; rw [nblt] at hk; exact ⟨rfl, by simpa using hk⟩
    · cases h
  · cases h

theorem indexD_spec {t : TypeId} {x ix : LV} {d : Dl} (h : indexD P t x ix = some d) : Pur P E w (Instr.index t (x.den E) (ix.den E)) d := by
  unfold indexD at h
  split at h
  · rename_i n e l k i hu
    split at h
    · rename_i q s hq hs
      split at h
      · rename_i v hv
        cases h
        obtain ⟨rfl, hlt⟩ := inB_spec hq
        refine .of_run ?_
        have hc : (0 : Int) ≤ (q : Int) ∧ (q : Int) < (n : Int) := ⟨by omega, by omega⟩
        have hpv := partV_spec (E := E) hv w
        simp [Instr.index, run_underlying hu, LV.den, V1.den, At.den, asIntOf, hlt, sizeT_spec hs]
        exact hpv
      · cases h
    · cases h
  · cases h

theorem extractD_nth_spec : ∀ {l : List V1} {i : Nat} {d : Dl}, extractD.nth l i = some d → ∃ v, l[i]? = some v ∧ d = .pure (.v v)
  | [], _, _, h => by simp [extractD.nth] at h
  | v :: l, 0, d, h => by simp only [extractD.nth] at h; cases h; exact ⟨v, rfl, rfl⟩
  | v :: l, i + 1, d, h => by
    simp only [extractD.nth] at h
    obtain ⟨u, h1, h2⟩ := extractD_nth_spec h
    exact ⟨u, by simpa using h1, h2⟩

theorem extractD_spec {x : LV} {i : Nat} {d : Dl} (h : extractD x i = some d) : Pur P E w (Instr.extract (x.den E) i) d := by
  unfold extractD at h
  split at h
  · obtain ⟨v, hv, rfl⟩ := extractD_nth_spec h
    refine .of_run ?_
    simp [Instr.extract, LV.den, hv]
  · cases h

theorem addr_add (b o n : Nat) : (⟨b, o, none⟩ : Addr).add n = ⟨b, o + n, none⟩ := by
  unfold Addr.add
  split <;> simp_all

theorem fieldAddrD_spec {t : TypeId} {x : LV} {i : Nat} {d : Dl} (h : fieldAddrD P t x i = some d) : Pur P E w (Instr.fieldAt t (x.den E) i) d := by
  unfold fieldAddrD at h
  split at h
  · rename_i fs b o hu
    split at h
    · rename_i f hf
      split at h
      · rename_i n hn
        refine pur_val1 h ?_
        rw [fieldAtL_spec] at hf
        have hf' : fs[i]? = some f := by simpa using hf
        simp [Instr.fieldAt, run_underlying hu, hf', LV.den, V1.den, At.den, Instr.sureAddr, fieldPlace, sizeT_spec hn, addr_add]
      · cases h
    · cases h
  · cases h

theorem indexAddrD_spec {t : TypeId} {x ix : LV} {d : Dl} (h : indexAddrD P t x ix = some d) : Pur P E w (Instr.indexAt t (x.den E) (ix.den E)) d := by
  unfold indexAddrD at h
  split at h
  · rename_i n e b o k i hu
    split at h
    · rename_i q s hq hs
      obtain ⟨rfl, hlt⟩ := inB_spec hq
      refine pur_val1 h ?_
      simp [Instr.indexAt, run_underlying hu, LV.den, V1.den, At.den, asIntOf, Instr.sureAddr, hlt, sizeT_spec hs, addr_add]
    · cases h
  · rename_i e b o n c k i hu
    split at h
    · rename_i q s hq hs
      obtain ⟨rfl, hlt⟩ := inB_spec hq
      refine pur_val1 h ?_
      simp [Instr.indexAt, run_underlying hu, LV.den, V1.den, At.den, asIntOf, hlt, sizeT_spec hs, addr_add]
    · cases h
  · rename_i e b n k i hu
    split at h
    · rename_i q s hq hs
      obtain ⟨rfl, hlt⟩ := inB_spec hq
      refine pur_val1 h ?_
      simp [Instr.indexAt, run_underlying hu, LV.den, V1.den, At.den, asIntOf, hlt, sizeT_spec hs, addr_add]
    · cases h
  · cases h

theorem bound_some {v : LV} {dflt n k : Nat} (h : bound (some v) dflt n = some k) : ∃ i, v = .v (.one (.int i (k : Int))) ∧ k ≤ n := by
  unfold bound at h
  split at h
  · rename_i he; cases he
  · rename_i i q he
    cases he
    split at h
    · rename_i hk
      cases h
      rw [nble] at hk
      exact ⟨i, rfl, by simpa using hk⟩
    · cases h
  · cases h

theorem sliceBounds_spec (b : Bool) {lo hi : Option LV} {n c h l : Nat} (hh : bound hi n c = some h) (hl : bound lo 0 h = some l) :
    (Instr.sliceBounds b n c (lo.map (LV.den E)) (hi.map (LV.den E)) none).run P w = .ok (l, h, c) w := by
  cases hi with
  | none =>
    simp only [bound, Option.some.injEq] at hh
    subst hh
    cases lo with
    | none => simp only [bound, Option.some.injEq] at hl; subst hl; simp [Instr.sliceBounds]
    | some v =>
      obtain ⟨i, rfl, hle⟩ := bound_some hl
      simp [Instr.sliceBounds, Instr.sliceBound, LV.den, V1.den, At.den, asIntOf, hle]
  | some u =>
    obtain ⟨i', rfl, hle'⟩ := bound_some hh
    cases lo with
    | none => simp only [bound, Option.some.injEq] at hl; subst hl; simp [Instr.sliceBounds, Instr.sliceBound, LV.den, V1.den, At.den, asIntOf, hle']
    | some v =>
      obtain ⟨i, rfl, hle⟩ := bound_some hl
      simp [Instr.sliceBounds, Instr.sliceBound, LV.den, V1.den, At.den, asIntOf, hle, hle']

theorem sliceD_spec {t : TypeId} {x : LV} {lo hi : Option LV} {d : Dl} (h : sliceD P t x lo hi = some d) :
    Pur P E w (Instr.sliceAt t (x.den E) (lo.map (LV.den E)) (hi.map (LV.den E)) none) d := by
  unfold sliceD at h
  split at h
  · rename_i n e b o hu
    split at h
    · rename_i hh s hb hs
      split at h
      · rename_i l hl
        have h1 := sliceBounds_spec (P := P) (E := E) (w := w) false hb hl
        split at h <;> rename_i hq <;> rw [nbeq] at hq <;> refine pur_val1 h ?_
        · have hq' : n = l := by simpa using hq
          subst hq'
          simp [Instr.sliceAt, run_underlying hu, LV.den, V1.den, At.den, Instr.sureAddr, sizeT_spec hs, h1]
        · have hq' : ¬ n = l := by simpa using hq
          simp [Instr.sliceAt, run_underlying hu, LV.den, V1.den, At.den, Instr.sureAddr, sizeT_spec hs, h1, hq', addr_add]
      · cases h
    · cases h
  · rename_i e b o n c hu
    split at h
    · rename_i hh s hb hs
      split at h
      · rename_i l hl
        have h1 := sliceBounds_spec (P := P) (E := E) (w := w) true hb hl
        split at h <;> rename_i hq <;> rw [nbeq] at hq <;> refine pur_val1 h ?_
        · have hq' : c = l := by simpa using hq
          subst hq'
          simp [Instr.sliceAt, Instr.slice, run_underlying hu, LV.den, V1.den, At.den, sizeT_spec hs, h1]
        · have hq' : ¬ c = l := by simpa using hq
          simp [Instr.sliceAt, Instr.slice, run_underlying hu, LV.den, V1.den, At.den, sizeT_spec hs, h1, hq', addr_add]
      · cases h
    · cases h
  · cases h

theorem lenD_spec {t ty : TypeId} {x : LV} {d : Dl} (h : lenD P t x = some d) : Pur P E w (Builtin.len_ #[t] ty #[x.den E]) d := by
  unfold lenD at h
  split at h <;> (try cases h; done) <;> rename_i hu <;> refine pur_val1 h ?_ <;>
    simp [Builtin.len_, run_underlying hu, LV.den, V1.den, At.den, goInt]

theorem minMax_spec : ∀ {mx : Bool} {l : List LV} {k : IntKind} {x : Int} {d : Dl}, minMax mx k x l = some d →
    Pur P E w ((l.map (LV.den E)).foldlM (if mx then Builtin.max2 else Builtin.min2) (.int k x)) d
  | mx, [], k, x, d, h => by
    simp only [minMax] at h
    exact pur_val1 h (by simp [At.den])
  | mx, .v (.one (.int k' y)) :: l, k, x, d, h => by
    cases mx
    · simp only [minMax] at h
      have := minMax_spec h
      refine ⟨this.wr, this.nw, fun hc => ?_⟩
      have := this.run hc
      simp [LV.den, V1.den, At.den, Builtin.min2] at this ⊢
      exact this
    · simp only [minMax] at h
      have := minMax_spec h
      refine ⟨this.wr, this.nw, fun hc => ?_⟩
      have := this.run hc
      simp [LV.den, V1.den, At.den, Builtin.max2] at this ⊢
      exact this
  | mx, .v (.one (.bool _)) :: l, k, x, d, h => by simp [minMax] at h
  | mx, .v (.one (.ptr _ _)) :: l, k, x, d, h => by simp [minMax] at h
  | mx, .v (.one .nilp) :: l, k, x, d, h => by simp [minMax] at h
  | mx, .v (.one (.sl _ _ _ _)) :: l, k, x, d, h => by simp [minMax] at h
  | mx, .v (.one (.slu _ _)) :: l, k, x, d, h => by simp [minMax] at h
  | mx, .v (.one .nilsl) :: l, k, x, d, h => by simp [minMax] at h
  | mx, .v (.one (.fn _ _)) :: l, k, x, d, h => by simp [minMax] at h
  | mx, .v (.one (.opq _)) :: l, k, x, d, h => by simp [minMax] at h
  | mx, .v (.agg _) :: l, k, x, d, h => by simp [minMax] at h
  | mx, .tup _ :: l, k, x, d, h => by simp [minMax] at h

theorem minD_spec {ts : Array TypeId} {ty : TypeId} {l : List LV} {d : Dl} (h : minMaxD false l = some d) : Pur P E w (Builtin.min_ ts ty (l.map (LV.den E)).toArray) d := by
  unfold minMaxD at h
  split at h
  · have := minMax_spec (P := P) (E := E) (w := w) h
    simpa [Builtin.min_, LV.den, V1.den, At.den] using this
  · cases h
theorem maxD_spec {ts : Array TypeId} {ty : TypeId} {l : List LV} {d : Dl} (h : minMaxD true l = some d) : Pur P E w (Builtin.max_ ts ty (l.map (LV.den E)).toArray) d := by
  unfold minMaxD at h
  split at h
  · have := minMax_spec (P := P) (E := E) (w := w) h
    simpa [Builtin.max_, LV.den, V1.den, At.den] using this
  · cases h

end
end Go.Lr
