/- The local evaluator: whole bodies, loops, calls walked into, against the model. -/
import Derived.Test.YtjbikokffafdbaaLrS11
namespace Go.Lr
open Go.RowKit

def Ex.to : Ex → Exit
  | .normal => .normal
  | .exit id => .exit id
  | .ret => .ret

section
variable {P : Program} {S : FuncId → Option Sum} {z : Md}

theorem R.st {E : Env} {s : St} {a : Act} {w : World} (h : R E s a w) : StOK s := ⟨h.okT, h.m.okM, h.m.uq⟩

theorem drawRun_wp (hB : BinOK P) (hS : AllOK P S) (hmix : P.follows .mixedOrders = true) {ops : Array Oper} {s s' : St} (h : drawRun P S z ops.toList s = some s') (hsz : s.sz ≤ 60000) (hs : StOK s) :
    (Good s' → Good s) ∧ StOK s' ∧ s'.sz = s.sz ∧ s.nb ≤ s'.nb ∧ (Good s' → ∀ (id : Nat) (E : Env) (a : Act) (w : World), R E s a w → ∀ Q : Exit → Act → World → Prop, (∀ E' a' w', R E' s' a' w' → Ext w E s w' E' s' → Q .normal a' w') →
      (Code.region id ops true).wp P Q a w) := by
  unfold drawRun at h
  split at h
  · rename_i s1 acc hd
    split at h
    · rename_i hfree hdown
      cases h
      obtain ⟨recs, e1, e2, e3, e4, e5, e6, e7, e8, e9⟩ := drawSeq_spec hd hsz hs
      refine ⟨fun hg => (e9 hg).1, e8, e7, ranged_le e5, fun hg id E a w hr Q hQ => ?_⟩
      obtain ⟨g1, g2⟩ := e9 hg
      refine wp_region_any hmix ?_
      have hrev : revR acc [] = recs := by rw [revR_eq, e1]; simp
      rw [hrev] at hfree
      have hlen : recs.length = ops.size := by have := congrArg List.length e2; simpa using this
      have hrem : ((List.range recs.length).zip recs).map (·.2) = recs := by
        rw [List.map_snd_zip]; simp
      refine draw_main (z := z) (N := s.nb) (sz := s.sz) (M := s'.nb) hB hS e2 hdown (fun i j x y hij hx hy hc => ?_) e5 e6 g2 ops.size ((List.range recs.length).zip recs) (Array.replicate ops.size false) s.as E (below s.nb) a { w with drawn := w.drawn + 1 } ?_ ?_ ⟨fun i r => ?_, ?_⟩ ?_ ?_ ?_ ?_ ?_ ?_
      · have := freeAll_spec hfree rfl j y hy i x (by omega) (by simpa using hx) hc
        simpa using this
      · simp [hlen]
      · simp
      · constructor
        · intro h
          obtain ⟨k, hk⟩ := List.mem_iff_getElem?.1 h
          rw [List.getElem?_zip_eq_some] at hk
          obtain ⟨k1, k2⟩ := hk
          have hkl : k < recs.length := (List.getElem?_eq_some_iff.1 k2).1
          rw [List.getElem?_range hkl] at k1
          cases k1
          refine ⟨k2, ?_⟩
          have : i < ops.size := by omega
          simp [this]
        · intro h
          obtain ⟨h1, _⟩ := h
          have hkl : i < recs.length := (List.getElem?_eq_some_iff.1 h1).1
          refine List.mem_iff_getElem?.2 ⟨i, ?_⟩
          rw [List.getElem?_zip_eq_some]
          exact ⟨List.getElem?_range hkl, h1⟩
      · have hp : (((List.range recs.length).zip recs).map (·.1)).Pairwise (· < ·) := by
          rw [List.map_fst_zip (by simp)]
          exact List.pairwise_lt_range
        exact (List.pairwise_map.1 hp)
      · intro k o hk hl
        exfalso
        have : k < ops.size := (Array.getElem?_eq_some_iff.1 hk).1
        simp [this] at hl
      · rw [hrem]; exact e3
      · exact ⟨hr.size, hr.tm, hr.defers, hr.okT, ⟨fun i b hb => hr.m.rel.blk i b hb, hr.m.rel.inj⟩, hs.okM'⟩
      · intro i hi
        have := ranged_le e5
        simp only [below, decide_eq_true_eq] at hi
        omega
      · intro i hi x hx
        obtain ⟨k, r⟩ := x
        have hr' : r ∈ recs := (List.of_mem_zip hx).2
        obtain ⟨q, hq⟩ := List.mem_iff_getElem?.1 hr'
        have := (ranged_at e5 q r hq).1
        simp only [below, decide_eq_true_eq] at hi
        simp only
        omega
      · intro E' p' a' w' h1 h2 h3
        rw [hrem, e4] at h1 h3
        have hmono : ∀ i, p' i = true → below s'.nb i = true := fun i hi => by simpa [below] using h2 i hi
        refine hQ E' a' w' ⟨h1.size.trans e7.symm, by rw [e7]; exact hsz, h1.tm, h1.defers, e8.okT, ⟨h1.rel, e8.okM, e8.uq⟩⟩ ?_
        exact ⟨ranged_le e5, h3.agree, h3.os, h3.tape, h3.output, h3.size, h3.frame, h3.src⟩
    · cases h
  · cases h

-- results
def resSem (tmps : Array Value) : ResultVar → Sem Value
  | .tmp t => pure (tmps.getD t undef)
  | .cell a t => do loadVar t (← asAddr (tmps.getD a undef))

theorem results_eq (fn : Func) (tmps : Array Value) : results fn tmps = (do let vs ← fn.results.mapM (resSem tmps); pure (if h : vs.size = 1 then vs[0] else .tuple vs)) := by
  have : resSem tmps = (fun r => match r with
      | .tmp t => pure (tmps.getD t undef)
      | .cell a t => do loadVar t (← asAddr (tmps.getD a undef))) := by
    funext r
    cases r <;> rfl
  rw [this]
  rfl

theorem resVals_spec {E : Env} {s : St} {w : World} {tmps : Array Value} (hm : Rel E (getM s.mem) w) (hτ : ∀ t : Nat, tmps.getD t undef = (getT s.tm t).den E) : ∀ {rs : List ResultVar} {vs : List LV}, resVals P (getT s.tm) s.mem rs = some vs →
    (rs.mapM (resSem tmps)).run P w = .ok (vs.map (LV.den E)) w
  | [], vs, h => by simp only [resVals] at h; cases h; simp
  | r :: rs, vs, h => by
    simp only [resVals] at h
    split at h
    · rename_i v vs' hv hvs
      cases h
      have h1 : (resSem tmps r).run P w = .ok (v.den E) w := by
        cases r with
        | tmp t =>
          simp only [resVal, Option.some.injEq] at hv
          subst hv
          simp only [resSem, Sem.run_pure, hτ t]
        | cell a t =>
          simp only [resVal] at hv
          split at hv
          · rename_i d hd
            cases hv
            unfold loadD at hd
            split at hd
            · rename_i b o hb
              split at hd
              · rename_i k hk
                split at hd
                · rename_i x hx
                  cases hd
                  have := loadVar_spec (P := P) (hm.blk b k hk) hx
                  simp only [resSem, Sem.run_bind, hτ a, hb, den_ptr, asAddr, Sem.run_pure, Result.andThen_ok, this]
                  rfl
                · cases hd
              · cases hd
            · cases hd
          · cases hv
      simp only [List.mapM_cons, Sem.run_bind, h1, Result.andThen_ok, resVals_spec hm hτ hvs, Sem.run_pure, List.map_cons]
    · cases h

theorem oneVs_spec {E : Env} : ∀ {vs : List LV} {l : List V1}, oneVs vs = some l → vs.map (LV.den E) = l.map (V1.den E)
  | [], l, h => by simp only [oneVs] at h; cases h; rfl
  | .v x :: vs, l, h => by
    simp only [oneVs] at h
    split at h
    · rename_i r hr; cases h; simp [oneVs_spec hr, LV.den]
    · cases h
  | .tup _ :: vs, l, h => by simp [oneVs] at h

theorem resultsD_spec {E : Env} {s : St} {w : World} {tmps : Array Value} {fn : Func} {v : LV} (hm : Rel E (getM s.mem) w) (hτ : ∀ t : Nat, tmps.getD t undef = (getT s.tm t).den E)
    (h : resultsD P fn.results.toList (getT s.tm) s.mem = some v) : (results fn tmps).run P w = .ok (v.den E) w := by
  have key : ∀ vs, resVals P (getT s.tm) s.mem fn.results.toList = some vs → (results fn tmps).run P w = .ok (if h : (vs.map (LV.den E)).toArray.size = 1 then (vs.map (LV.den E)).toArray[0] else .tuple (vs.map (LV.den E)).toArray) w := by
    intro vs hvs
    have := resVals_spec (P := P) hm hτ hvs
    rw [results_eq, Array.mapM_eq_mapM_toList]
    simp only [Sem.run_bind, Sem.run_map]
    rw [this]
    simp only [Result.andThen_ok, Sem.run_pure]
  unfold resultsD at h
  split at h
  · rename_i u hu
    cases h
    rw [key _ hu]
    simp
  · rename_i vs hne hvs
    split at h
    · rename_i l hl
      cases h
      rw [key _ hvs]
      rw [dif_neg]
      · simp only [LV.den]
        rw [oneVs_spec hl]
      · intro h1
        have : vs.length = 1 := by simpa using h1
        match vs, this with
        | [x], _ => exact hne x rfl
    · cases h
  · cases h

theorem resVals_ok {p : Nat → Bool} {τ : Nat → LV} {m : Mem} (hτ : ∀ t, (τ t).ok p = true) (hg : ∀ i c, getM m i = some c → p i = true ∧ okL p c.cells = true) : ∀ {rs : List ResultVar} {vs : List LV}, resVals P τ m rs = some vs → ∀ v ∈ vs, v.ok p = true
  | [], vs, h => by simp only [resVals] at h; cases h; simp
  | r :: rs, vs, h => by
    simp only [resVals] at h
    split at h
    · rename_i v vs' hv hvs
      cases h
      simp only [List.mem_cons, forall_eq_or_imp]
      refine ⟨?_, resVals_ok hτ hg hvs⟩
      cases r with
      | tmp t => simp only [resVal, Option.some.injEq] at hv; subst hv; exact hτ t
      | cell a t =>
        simp only [resVal] at hv
        split at hv
        · rename_i d hd
          cases hv
          unfold loadD at hd
          split at hd
          · split at hd
            · rename_i k hk
              split at hd
              · rename_i x hx
                cases hd
                exact partV_ok hx (hg _ _ hk).2
              · cases hd
            · cases hd
          · cases hd
        · cases hv
    · cases h

theorem oneVs_ok {p : Nat → Bool} : ∀ {vs : List LV} {l : List V1}, oneVs vs = some l → (∀ v ∈ vs, v.ok p = true) → okVs p l = true
  | [], l, h, _ => by simp only [oneVs] at h; cases h; rfl
  | .v x :: vs, l, h, hv => by
    simp only [oneVs] at h
    split at h
    · rename_i r hr
      cases h
      rw [okVs_iff]
      simp only [List.mem_cons, forall_eq_or_imp]
      exact ⟨hv (.v x) (by simp), okVs_iff.1 (oneVs_ok hr fun v hm => hv v (by simp [hm]))⟩
    · cases h
  | .tup _ :: vs, l, h, _ => by simp [oneVs] at h

theorem resultsD_ok {p : Nat → Bool} {τ : Nat → LV} {m : Mem} {rs : List ResultVar} {v : LV} (hτ : ∀ t, (τ t).ok p = true) (hg : ∀ i c, getM m i = some c → p i = true ∧ okL p c.cells = true) (h : resultsD P rs τ m = some v) : v.ok p = true := by
  unfold resultsD at h
  split at h
  · rename_i u hu
    cases h
    exact resVals_ok hτ hg hu _ (by simp)
  · rename_i vs _ hvs
    split at h
    · rename_i l hl
      cases h
      exact oneVs_ok hl (resVals_ok hτ hg hvs)
    · cases h
  · cases h

-- a frame's first state
theorem argsTK_eq {β : Type} : ∀ (t : Tr) (i : Nat) (l : List LV) (k : Tr → β), argsTK t i l k = k (argsT t i l)
  | _, _, [], _ => rfl
  | t, i, v :: l, k => by simp only [argsTK, argsT, setTK_eq, argsTK_eq]

theorem getT_argsT : ∀ (l : List LV) (t : Tr) (i : Nat) (j : Nat), i + l.length < 65535 → getT (argsT t i l) j = if i ≤ j ∧ j < i + l.length then l.getD (j - i) undefL else getT t j
  | [], t, i, j, _ => by
    simp only [argsT, List.length_nil]
    rw [if_neg (by omega)]
  | v :: l, t, i, j, h => by
    simp only [List.length_cons] at h ⊢
    simp only [argsT]
    rw [getT_argsT l _ (i + 1) j (by omega), getT_setT 16 t i v j (by omega)]
    by_cases h1 : j = i
    · subst h1
      rw [if_neg (by omega), if_pos rfl, if_pos (by omega)]
      simp
    · by_cases h2 : i ≤ j ∧ j < i + (l.length + 1)
      · rw [if_pos (by omega), if_pos h2]
        rw [show j - i = (j - (i + 1)) + 1 by omega]
        simp
      · rw [if_neg (by omega), if_neg h1, if_neg h2]

end
end Go.Lr
