/- The local evaluator: what its values, trees and memories mean. -/
import Derived.Test.YtjbikokffafdbaaLrRun
import Derived.WalkKit
namespace Go.Lr

theorem nbeq (a b : Nat) : Nat.beq a b = decide (a = b) := by rw [Bool.eq_iff_iff, Nat.beq_eq]; simp
theorem nble (a b : Nat) : Nat.ble a b = decide (a ≤ b) := by rw [Bool.eq_iff_iff, Nat.ble_eq]; simp
theorem nblt (a b : Nat) : Nat.blt a b = decide (a < b) := by unfold Nat.blt; rw [nble]; rfl

-- naming, and what stands for what
theorem At.den_congr {p : Nat → Bool} {E E' : Env} (h : ∀ i, p i = true → E' i = E i) : ∀ {a : At}, a.ok p = true → a.den E' = a.den E := by
  intro a ha
  cases a with
  | ptr b o => simp only [At.ok] at ha; simp [At.den, h b ha]
  | sl b o l c => simp only [At.ok] at ha; simp [At.den, h b ha]
  | slu b l => simp only [At.ok] at ha; simp [At.den, h b ha]
  | fn f caps =>
    simp only [At.ok, List.all_eq_true] at ha
    simp only [At.den, Value.func.injEq, true_and]
    congr 1
    exact List.map_congr_left fun c hc => by rw [h _ (ha c hc)]
  | _ => rfl

theorem okL_iff {p : Nat → Bool} : ∀ {l : List At}, okL p l = true ↔ ∀ a ∈ l, a.ok p = true
  | [] => by simp [okL]
  | a :: l => by
    simp only [okL, List.mem_cons, forall_eq_or_imp]
    cases h : a.ok p <;> simp [okL_iff (l := l)]

theorem okVs_iff {p : Nat → Bool} : ∀ {l : List V1}, okVs p l = true ↔ ∀ a ∈ l, a.ok p = true
  | [] => by simp [okVs]
  | a :: l => by
    simp only [okVs, List.mem_cons, forall_eq_or_imp]
    cases h : a.ok p <;> simp [okVs_iff (l := l)]

theorem okBs_iff {p : Nat → Bool} : ∀ {l : List Blk}, okBs p l = true ↔ ∀ a ∈ l, okL p a.cells = true
  | [] => by simp [okBs]
  | a :: l => by
    simp only [okBs, List.mem_cons, forall_eq_or_imp]
    cases h : okL p a.cells <;> simp [okBs_iff (l := l)]

theorem denL_congr {p : Nat → Bool} {E E' : Env} (h : ∀ i, p i = true → E' i = E i) {l : List At} (hl : okL p l = true) : l.map (At.den E') = l.map (At.den E) :=
  List.map_congr_left fun a ha => At.den_congr h (okL_iff.1 hl a ha)

theorem V1.den_congr {p : Nat → Bool} {E E' : Env} (h : ∀ i, p i = true → E' i = E i) : ∀ {a : V1}, a.ok p = true → a.den E' = a.den E
  | .one _, ha => At.den_congr h ha
  | .agg l, ha => by simp only [V1.den]; rw [denL_congr h ha]

theorem LV.den_congr {p : Nat → Bool} {E E' : Env} (h : ∀ i, p i = true → E' i = E i) : ∀ {a : LV}, a.ok p = true → a.den E' = a.den E
  | .v _, ha => V1.den_congr h ha
  | .tup l, ha => by
    simp only [LV.den]
    rw [List.map_congr_left fun a hm => V1.den_congr h (okVs_iff.1 ha a hm)]

theorem At.ok_mono {p q : Nat → Bool} (h : ∀ i, p i = true → q i = true) : ∀ {a : At}, a.ok p = true → a.ok q = true := by
  intro a ha
  cases a with
  | ptr b o => exact h _ ha
  | sl b o l c => exact h _ ha
  | slu b l => exact h _ ha
  | fn f caps => simp only [At.ok, List.all_eq_true] at ha ⊢; exact fun c hc => h _ (ha c hc)
  | _ => rfl
theorem okL_mono {p q : Nat → Bool} (h : ∀ i, p i = true → q i = true) {l : List At} (hl : okL p l = true) : okL q l = true :=
  okL_iff.2 fun a ha => At.ok_mono h (okL_iff.1 hl a ha)
theorem V1.ok_mono {p q : Nat → Bool} (h : ∀ i, p i = true → q i = true) : ∀ {a : V1}, a.ok p = true → a.ok q = true
  | .one _, ha => At.ok_mono h ha
  | .agg _, ha => okL_mono h ha
theorem LV.ok_mono {p q : Nat → Bool} (h : ∀ i, p i = true → q i = true) : ∀ {a : LV}, a.ok p = true → a.ok q = true
  | .v _, ha => V1.ok_mono h ha
  | .tup _, ha => okVs_iff.2 fun a hm => V1.ok_mono h (okVs_iff.1 ha a hm)
theorem okBs_mono {p q : Nat → Bool} (h : ∀ i, p i = true → q i = true) {l : List Blk} (hl : okBs p l = true) : okBs q l = true :=
  okBs_iff.2 fun a ha => okL_mono h (okBs_iff.1 hl a ha)

-- closed values
theorem ofAtom_spec {v : Value} {a : At} (h : ofAtom v = some a) : (∀ E, a.den E = v) ∧ (∀ p, a.ok p = true) ∧ a.cell = true := by
  unfold ofAtom at h
  split at h <;> first
    | (cases h; refine ⟨fun _ => rfl, fun _ => rfl, rfl⟩)
    | cases h

theorem ofAtoms_spec : ∀ {l : List Value} {r : List At}, ofAtoms l = some r → (∀ E, r.map (At.den E) = l) ∧ (∀ p, okL p r = true) ∧ allCell r = true
  | [], r, h => by simp only [ofAtoms] at h; cases h; exact ⟨fun _ => rfl, fun _ => rfl, rfl⟩
  | v :: l, r, h => by
    simp only [ofAtoms] at h
    split at h
    · rename_i a r' ha hr
      cases h
      obtain ⟨h1, h2, h3⟩ := ofAtom_spec ha
      obtain ⟨g1, g2, g3⟩ := ofAtoms_spec hr
      exact ⟨fun E => by simp [h1 E, g1 E], fun p => by simp [okL, h2 p, g2 p], by simp [allCell, h3, g3]⟩
    · cases h

theorem ofVal_spec {v : Value} {x : V1} (h : ofVal v = some x) : (∀ E, x.den E = v) ∧ (∀ p, x.ok p = true) := by
  unfold ofVal at h
  split at h
  · rename_i cs
    split at h
    · rename_i l hl
      cases h
      obtain ⟨g1, g2, _⟩ := ofAtoms_spec hl
      exact ⟨fun E => by simp [V1.den, g1 E], fun p => g2 p⟩
    · cases h
  · split at h
    · rename_i a ha
      cases h
      obtain ⟨h1, h2, _⟩ := ofAtom_spec ha
      exact ⟨h1, h2⟩
    · cases h

-- the tree of slots
theorem setTK_eq {β : Type} : ∀ (f : Nat) (t : Tr) (i : Nat) (v : LV) (k : Tr → β), setTK f t i v k = k (setT f t i v)
  | 0, t, i, v, k => by simp [setTK, setT]
  | f + 1, .nil, 0, v, k => by simp [setTK, setT]
  | f + 1, .nd _ l r, 0, v, k => by simp [setTK, setT]
  | f + 1, .nil, i + 1, v, k => by
    simp only [setTK, setT]
    split <;> rw [setTK_eq f]
  | f + 1, .nd u l r, i + 1, v, k => by
    simp only [setTK, setT]
    split <;> rw [setTK_eq f]

theorem getT_nil (i : Nat) : getT .nil i = undefL := by cases i <;> rfl

theorem getT_succ_nd (v : LV) (l r : Tr) (i : Nat) : getT (.nd v l r) (i + 1) = if i % 2 = 0 then getT l (i / 2) else getT r (i / 2) := by
  simp only [getT]
  by_cases h : i % 2 = 0
  · simp [h]
  · have : Nat.beq (i % 2) 0 = false := by rw [nbeq]; simp [h]
    simp [h, this]

theorem setT_succ (f : Nat) (t : Tr) (i : Nat) (v : LV) : ∃ u l r, (∀ j, getT t j = getT (.nd u l r) j) ∧
    setT (f + 1) t (i + 1) v = if i % 2 = 0 then .nd u (setT f l (i / 2) v) r else .nd u l (setT f r (i / 2) v) := by
  cases t with
  | nil =>
    refine ⟨undefL, .nil, .nil, fun j => ?_, ?_⟩
    · cases j with
      | zero => rfl
      | succ j => rw [getT_succ_nd, getT_nil, getT_nil]; simp
    · simp only [setT]
      by_cases h : i % 2 = 0
      · simp [h]
      · have : Nat.beq (i % 2) 0 = false := by rw [nbeq]; simp [h]
        simp [h, this]
  | nd u l r =>
    refine ⟨u, l, r, fun j => rfl, ?_⟩
    simp only [setT]
    by_cases h : i % 2 = 0
    · simp [h]
    · have : Nat.beq (i % 2) 0 = false := by rw [nbeq]; simp [h]
      simp [h, this]

theorem getT_setT : ∀ (f : Nat) (t : Tr) (i : Nat) (v : LV) (j : Nat), i + 1 < 2 ^ f → getT (setT f t i v) j = if j = i then v else getT t j
  | 0, _, i, _, _, h => by simp at h
  | f + 1, t, 0, v, j, _ => by
    cases t with
    | nil =>
      cases j with
      | zero => simp [setT, getT]
      | succ j => simp only [setT]; rw [getT_succ_nd, getT_nil, getT_nil]; simp
    | nd u l r =>
      cases j with
      | zero => simp [setT, getT]
      | succ j => simp only [setT]; rw [getT_succ_nd, getT_succ_nd]; simp
  | f + 1, t, i + 1, v, j, h => by
    have hf : i / 2 + 1 < 2 ^ f := by rw [Nat.pow_succ] at h; omega
    obtain ⟨u, l, r, e, hs⟩ := setT_succ f t i v
    rw [hs, e j]
    cases j with
    | zero => by_cases hi : i % 2 = 0 <;> simp [hi, getT]
    | succ j =>
      have e1 := getT_setT f l (i / 2) v (j / 2) hf
      have e2 := getT_setT f r (i / 2) v (j / 2) hf
      by_cases hi : i % 2 = 0
      · rw [if_pos hi, getT_succ_nd, getT_succ_nd]
        by_cases hj : j % 2 = 0
        · rw [if_pos hj, if_pos hj, e1]
          by_cases hij : j = i
          · subst hij; simp
          · rw [if_neg (by omega), if_neg (by omega)]
        · rw [if_neg hj, if_neg hj, if_neg (by omega)]
      · rw [if_neg hi, getT_succ_nd, getT_succ_nd]
        by_cases hj : j % 2 = 0
        · rw [if_pos hj, if_pos hj, if_neg (by omega)]
        · rw [if_neg hj, if_neg hj, e2]
          by_cases hij : j = i
          · subst hij; simp
          · rw [if_neg (by omega), if_neg (by omega)]

-- what lies open ahead of what follows
theorem forceL_eq {α β : Type} : ∀ (l : List α) (k : List α → β), forceL l k = k l
  | [], k => rfl
  | x :: l, k => by simp [forceL, forceL_eq l]
theorem forceN_eq {β : Type} (n : Nat) (k : Nat → β) : forceN n k = k n := by cases n <;> rfl
theorem forceI_eq {β : Type} (n : Int) (k : Int → β) : forceI n k = k n := by cases n <;> simp [forceI, forceN_eq]
theorem forceB_eq {β : Type} (b : Bool) (k : Bool → β) : forceB b k = k b := by cases b <;> rfl
theorem forceA_eq {β : Type} (a : At) (k : At → β) : forceA a k = k a := by cases a <;> simp [forceA, forceI_eq, forceB_eq]
theorem forceAs_eq {β : Type} : ∀ (l : List At) (k : List At → β), forceAs l k = k l
  | [], k => rfl
  | x :: l, k => by simp [forceAs, forceAs_eq l, forceA_eq]
theorem forceV1_eq {β : Type} (a : V1) (k : V1 → β) : forceV1 a k = k a := by cases a <;> simp [forceV1, forceA_eq, forceAs_eq]
theorem forceVs_eq {β : Type} : ∀ (l : List V1) (k : List V1 → β), forceVs l k = k l
  | [], k => rfl
  | x :: l, k => by simp [forceVs, forceVs_eq l, forceV1_eq]
theorem forceV_eq {β : Type} (z : Bool) (v : LV) (k : LV → β) : forceV z v k = k v := by
  cases z <;> cases v <;> simp [forceV, forceV1_eq, forceVs_eq]

-- memory
theorem setMK_eq {β : Type} : ∀ (m : Mem) (i : Nat) (s : Option Blk) (k : Mem → β), setMK m i s k = k (setM m i s)
  | [], _, _, _ => rfl
  | (j, b) :: m, i, s, k => by
    simp only [setMK, setM]
    cases Nat.beq j i
    · simp [setMK_eq m]
    · cases s <;> rfl

theorem getM_cons (j : Nat) (b : Blk) (m : Mem) (i : Nat) : getM ((j, b) :: m) i = if i = j then some b else getM m i := by
  simp only [getM, nbeq]
  by_cases h : j = i
  · simp [h]
  · rw [if_neg (fun e => h e.symm)]; simp [h]

/-- No number stands twice. -/
def uniq : Mem → Prop
  | [] => True
  | (j, _) :: m => getM m j = none ∧ uniq m

theorem getM_setM : ∀ (m : Mem) (i : Nat) (s : Option Blk) (k : Nat), uniq m → (getM m i).isSome → getM (setM m i s) k = if k = i then s else getM m k
  | [], i, s, k, _, h => by simp [getM] at h
  | (j, b) :: m, i, s, k, hu, h => by
    simp only [setM, nbeq]
    by_cases hji : j = i
    · subst hji
      cases s with
      | some c =>
        simp only [decide_true]
        rw [getM_cons, getM_cons]
        by_cases hk : k = j <;> simp [hk]
      | none =>
        simp only [decide_true]
        rw [getM_cons]
        by_cases hk : k = j
        · subst hk; simp [hu.1]
        · simp [hk]
    · simp only [hji, decide_false]
      rw [getM_cons, getM_cons]
      rw [getM_cons, if_neg (fun e => hji e.symm)] at h
      rw [getM_setM m i s k hu.2 h]
      by_cases hk : k = j
      · subst hk; simp [hji]
      · simp [hk]

theorem uniq_setM : ∀ (m : Mem) (i : Nat) (s : Option Blk), uniq m → uniq (setM m i s)
  | [], i, s, _ => trivial
  | (j, b) :: m, i, s, hu => by
    simp only [setM, nbeq]
    by_cases hji : j = i
    · cases s with
      | some c => simpa [hji] using ⟨by simpa [hji] using hu.1, hu.2⟩
      | none => simpa [hji] using hu.2
    · simp only [hji, decide_false]
      refine ⟨?_, uniq_setM m i s hu.2⟩
      by_cases h : (getM m i).isSome
      · rw [getM_setM m i s j hu.2 h, if_neg hji]; exact hu.1
      · have : ∀ (m : Mem), ¬ (getM m i).isSome = true → setM m i s = m := by
          intro m
          induction m with
          | nil => intro _; rfl
          | cons x m ih =>
            obtain ⟨j', b'⟩ := x
            intro hn
            rw [getM_cons] at hn
            by_cases hj : i = j'
            · simp [hj] at hn
            · rw [if_neg hj] at hn
              simp only [setM, nbeq]
              rw [decide_eq_false (fun e => hj e.symm), ih hn]
        rw [this m h]; exact hu.1

end Go.Lr
