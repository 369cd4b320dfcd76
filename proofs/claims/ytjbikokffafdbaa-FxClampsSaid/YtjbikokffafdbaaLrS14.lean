/- The local evaluator: the comparing of structs and arrays. -/
import Derived.Test.YtjbikokffafdbaaLrS13
namespace Go.Lr
open Go.RowKit

section
variable {P : Program} {E : Env}

theorem forIn_all {α : Type} (f : α → Option Bool × Unit → Sem (ForInStep (Option Bool × Unit))) (b : α → Bool) (w : World) : ∀ (l : List α),
    (∀ x ∈ l, (f x (none, ())).run P w = .ok (if b x then .yield (none, ()) else .done (some false, ())) w) →
    (forIn l (none, ()) f).run P w = .ok (if l.all b then (none, ()) else (some false, ())) w
  | [], _ => by simp
  | x :: l, h => by
    simp only [List.forIn_cons, Sem.run_bind, h x (by simp), Result.andThen_ok]
    cases hb : b x with
    | false => simp [hb]
    | true =>
      simp only [if_true, List.all_cons, hb, Bool.true_and]
      exact forIn_all f b w l fun y hy => h y (by simp [hy])

def eqF (P : Program) (d : Nat) (xs ys : List At) (f : Field) : Bool :=
  match partV P f.type xs f.offset, partV P f.type ys f.offset with
  | some a, some b => (eqV P d f.type a b).getD false
  | _, _ => false

theorem eqFields_spec {d : Nat} {xs ys : List At} : ∀ {fs : List Field} {r : Bool}, eqFields P (eqV P d) fs xs ys = some r →
    r = fs.all (eqF P d xs ys) ∧ ∀ f ∈ fs, f.name ≠ "_" ∧ ∃ a b, partV P f.type xs f.offset = some a ∧ partV P f.type ys f.offset = some b ∧ eqV P d f.type a b = some (eqF P d xs ys f)
  | [], r, h => by simp only [eqFields] at h; cases h; simp
  | f :: fs, r, h => by
    simp only [eqFields] at h
    split at h
    · cases h
    · rename_i hn
      split at h
      · rename_i a b ha hb
        split at h
        · rename_i r1 rs h1 h2
          cases h
          obtain ⟨g1, g2⟩ := eqFields_spec h2
          have he : eqF P d xs ys f = r1 := by simp [eqF, ha, hb, h1]
          refine ⟨by simp [he, g1], fun f' hf' => ?_⟩
          rcases List.mem_cons.1 hf' with rfl | hf'
          · exact ⟨by simpa using hn, a, b, ha, hb, by rw [he]; exact h1⟩
          · exact g2 f' hf'
        · cases h
      · cases h

def eqE (P : Program) (d : Nat) (e : TypeId) (s : Nat) (xs ys : List At) (i : Nat) : Bool :=
  match partV P e xs (i * s), partV P e ys (i * s) with
  | some a, some b => (eqV P d e a b).getD false
  | _, _ => false

theorem eqElems_spec {d s : Nat} {e : TypeId} {xs ys : List At} : ∀ {n i : Nat} {r : Bool}, eqElems P (eqV P d) e s n i xs ys = some r →
    r = (List.range' i n).all (eqE P d e s xs ys) ∧ ∀ j ∈ List.range' i n, ∃ a b, partV P e xs (j * s) = some a ∧ partV P e ys (j * s) = some b ∧ eqV P d e a b = some (eqE P d e s xs ys j)
  | 0, i, r, h => by simp only [eqElems] at h; cases h; simp
  | n + 1, i, r, h => by
    simp only [eqElems] at h
    split at h
    · rename_i a b ha hb
      split at h
      · rename_i r1 rs h1 h2
        cases h
        obtain ⟨g1, g2⟩ := eqElems_spec h2
        have he : eqE P d e s xs ys i = r1 := by simp [eqE, ha, hb, h1]
        rw [List.range'_succ]
        refine ⟨by simp [he, g1], fun j hj => ?_⟩
        rcases List.mem_cons.1 hj with rfl | hj
        · exact ⟨a, b, ha, hb, by rw [he]; exact h1⟩
        · exact g2 j hj
      · cases h
    · cases h

theorem eqV_spec (w : World) : ∀ {d : Nat} {t : TypeId} {x y : V1} {b : Bool}, eqV P d t x y = some b → (Op.equalIn d t (x.den E) (y.den E)).run P w = .ok b w
  | 0, t, x, y, b, h => by simp [eqV] at h
  | d + 1, t, x, y, b, h => by
    unfold eqV at h
    unfold Op.equalIn
    split at h
    · rename_i p q hu
      cases h
      simp [run_underlying hu, V1.den, At.den]
    · rename_i k' k p k'' q hu
      split at h
      · rename_i hk
        cases h
        have := kindEq_iff hk
        subst this
        simp [run_underlying hu, V1.den, At.den]
      · cases h
    · rename_i fs xs ys hu
      split at h
      · cases h
      · rename_i hst
        obtain ⟨g1, g2⟩ := eqFields_spec h
        simp only [Sem.run_bind, run_underlying hu, Result.andThen_ok, V1.den]
        have hprog : (program : Sem Program).run P w = .ok P w := rfl
        simp only [hprog, Result.andThen_ok, hst, Bool.false_eq_true, if_false, Sem.run_bind]
        rw [← Array.forIn_toList, forIn_all _ (eqF P d xs ys) w fs.toList (fun f hf => by
          obtain ⟨hn, a, b', ha, hb, hab⟩ := g2 f hf
          have h1 := partV_spec (E := E) ha w
          have h2 := partV_spec (E := E) hb w
          have h3 := eqV_spec w hab
          simp only [ne_eq, hn, not_false_eq_true, if_true, Sem.run_bind, h1, Result.andThen_ok, h2, h3]
          cases eqF P d xs ys f <;> simp)]
        rw [g1]
        cases fs.toList.all (eqF P d xs ys) <;> simp
    · rename_i n e xs ys hu
      split at h
      · rename_i s hs
        obtain ⟨g1, g2⟩ := eqElems_spec h
        simp only [Sem.run_bind, run_underlying hu, Result.andThen_ok, V1.den, sizeT_spec hs]
        rw [Std.Legacy.Range.forIn_eq_forIn_range', forIn_all _ (eqE P d e s xs ys) w _ (fun j hj => by
          obtain ⟨a, b', ha, hb, hab⟩ := g2 j (by simpa [Std.Legacy.Range.size] using hj)
          have h1 := partV_spec (E := E) ha w
          have h2 := partV_spec (E := E) hb w
          have h3 := eqV_spec w hab
          simp only [Sem.run_bind, h1, Result.andThen_ok, h2, h3]
          cases eqE P d e s xs ys j <;> simp)]
        rw [g1]
        simp only [Std.Legacy.Range.size, Nat.sub_zero, Nat.add_one_sub_one, Nat.div_one, Result.andThen_ok]
        cases (List.range' 0 n).all (eqE P d e s xs ys) <;> simp
      · cases h
    · cases h

theorem intOf?_spec {x : LV} {k : IntKind} {n : Int} (h : intOf? x = some (k, n)) : x = .v (.one (.int k n)) := by
  unfold intOf? at h
  split at h
  · cases h; rfl
  · cases h

/-- Shapes that are compared. -/
theorem eqV_shape {d : Nat} {t : TypeId} {x y : V1} {b : Bool} (h : eqV P d t x y = some b) :
    (∃ p q, x = .one (.bool p) ∧ y = .one (.bool q)) ∨ (∃ k p l q, x = .one (.int k p) ∧ y = .one (.int l q)) ∨ (∃ p q, x = .agg p ∧ y = .agg q) := by
  cases d with
  | zero => simp [eqV] at h
  | succ d =>
    unfold eqV at h
    split at h
    · exact .inl ⟨_, _, rfl, rfl⟩
    · exact .inr (.inl ⟨_, _, _, _, rfl, rfl⟩)
    · exact .inr (.inr ⟨_, _, rfl, rfl⟩)
    · exact .inr (.inr ⟨_, _, rfl, rfl⟩)
    · cases h

theorem binOK (P : Program) : BinOK P := by
  intro E w a op t x y xo yo kn d hx hy h
  unfold binD at h
  split at h
  · rename_i k p hp
    have hxe := intOf?_spec hp
    split at h
    · rename_i l q hq
      have hye := intOf?_spec hq
      subst hxe hye
      have hpur := binII_spec (P := P) (E := E) (w := w) t h
      refine ⟨hpur.wr, hpur.nw, fun hc => ?_⟩
      have := hpur.run hc
      simp only [LV.den, V1.den, At.den, Sem.run_bind]
      have hg : (eqGuard op t xo yo (.int k p) (.int l q)).run P w = .ok () w := by
        unfold eqGuard
        cases op <;> simp
      rw [hg]
      exact this
    · cases h
  · rename_i hni
    split at h
    · rename_i u hu
      split at h
      · rename_i v hv
        have hxe : x = .v u := by
          unfold v1Of? at hu
          split at hu
          · cases hu; rfl
          · cases hu
        have hye : y = .v v := by
          unfold v1Of? at hv
          split at hv
          · cases hv; rfl
          · cases hv
        subst hxe hye
        have key : ∀ (r : Bool), P.eqGuardType P.depth t = false → eqV P 10000 t u v = some r → (op = .eql ∨ op = .neq) →
            (eqGuard op t xo yo (u.den E) (v.den E)).run P w = .ok () w ∧ (Op.equal t (u.den E) (v.den E)).run P w = .ok r w := by
          intro r hg hr hop
          refine ⟨?_, eqV_spec w hr⟩
          unfold eqGuard
          rcases eqV_shape hr with ⟨p, q, rfl, rfl⟩ | ⟨k, p, l, q, rfl, rfl⟩ | ⟨p, q, rfl, rfl⟩
          · rcases hop with rfl | rfl <;> simp [V1.den, At.den]
          · rcases hop with rfl | rfl <;> simp [V1.den, At.den]
          · have hprog : (program : Sem Program).run P w = .ok P w := rfl
            rcases hop with rfl | rfl <;> simp [V1.den, hprog, hg]
        unfold binEq at h
        split at h
        · split at h
          · rename_i r hg hr
            refine pur_val1 h ?_
            obtain ⟨h1, h2⟩ := key r hg hr (.inl rfl)
            simp only [LV.den, Sem.run_bind, h1, Result.andThen_ok]
            rcases eqV_shape hr with ⟨p, q, rfl, rfl⟩ | ⟨k, p, l, q, rfl, rfl⟩ | ⟨p, q, rfl, rfl⟩
            · simp only [V1.den, At.den] at h2 ⊢
              simp only [binOp, Sem.run_bind, h2, Result.andThen_ok, Sem.run_pure]
            · simp [intOf?] at hni
            · simp only [V1.den] at h2 ⊢
              simp only [binOp, Sem.run_bind, h2, Result.andThen_ok, Sem.run_pure]
              rfl
          · cases h
        · split at h
          · rename_i r hg hr
            refine pur_val1 h ?_
            obtain ⟨h1, h2⟩ := key r hg hr (.inr rfl)
            simp only [LV.den, Sem.run_bind, h1, Result.andThen_ok]
            rcases eqV_shape hr with ⟨p, q, rfl, rfl⟩ | ⟨k, p, l, q, rfl, rfl⟩ | ⟨p, q, rfl, rfl⟩
            · simp only [V1.den, At.den] at h2 ⊢
              simp only [binOp, Sem.run_bind, h2, Result.andThen_ok, Sem.run_pure]
            · simp [intOf?] at hni
            · simp only [V1.den] at h2 ⊢
              simp only [binOp, Sem.run_bind, h2, Result.andThen_ok, Sem.run_pure]
              rfl
          · cases h
        · cases h
      · cases h
    · cases h

end
end Go.Lr
