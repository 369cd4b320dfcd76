/- The local evaluator: a region that draws its order, whatever the order. -/
import Derived.Test.YtjbikokffafdbaaLrS9
namespace Go.Lr
open Go.RowKit

/-- What a state names lies below its bound. -/
structure StOK (s : St) : Prop where
  okT : ∀ t, (getT s.tm t).ok (below s.nb) = true
  okM : ∀ i b, getM s.mem i = some b → i < s.nb ∧ okL (below s.nb) b.cells = true
  uq : uniq s.mem

theorem StOK.okM' {s : St} (h : StOK s) : ∀ i c, getM s.mem i = some c → below s.nb i = true ∧ okL (below s.nb) c.cells = true :=
  fun i c hc => ⟨by have := (h.okM i c hc).1; simpa [below] using this, (h.okM i c hc).2⟩

theorem StOK.free {s : St} (h : StOK s) {i : Nat} (hi : s.nb ≤ i) : getM s.mem i = none := by
  cases hc : getM s.mem i with
  | none => rfl
  | some b => have := (h.okM i b hc).1; omega

theorem StOK.get {s : St} (h : StOK s) {d : Dl} (hd : OkD (below s.nb) (getM s.mem) s.nb d) : getM (newAll (putAll s.mem d.wr) s.nb d.nw) = nwG (wrG (getM s.mem) d.wr) s.nb d.nw := by
  funext k
  rw [getM_newAll]
  congr 1
  funext j
  exact getM_putAll d.wr s.mem h.uq hd.live hd.nd j

/-- The state behind an operation is in order. -/
theorem StOK.app {s s1 : St} (h : StOK s) {d : Dl} {dst : Option Tmp} (hd : OkD (below s.nb) (getM s.mem) s.nb d) (h1 : s1.nb = s.nb + d.nw.length) (h2 : s1.mem = newAll (putAll s.mem d.wr) s.nb d.nw)
    (h3 : getT s1.tm = updτ (getT s.tm) dst d.val) : StOK s1 := by
  have hmono : ∀ i, below s.nb i = true → below s1.nb i = true := fun i hi => by simp only [below, decide_eq_true_eq] at hi ⊢; omega
  have hpn : ∀ i, pn (below s.nb) s.nb d.nw.length i = true → below s1.nb i = true := fun i hi => by rw [h1]; exact below_pn hi
  refine ⟨fun t => ?_, fun i b hb => ?_, ?_⟩
  · rw [h3]
    unfold updτ
    cases dst with
    | none => exact LV.ok_mono hmono (h.okT t)
    | some e =>
      by_cases ht : t = e
      · simp only [ht, if_true]; exact LV.ok_mono hpn hd.val
      · simp only [ht, if_false]; exact LV.ok_mono hmono (h.okT t)
  · rw [h2, h.get hd] at hb
    rcases nwG_mem _ _ _ _ hb with hb | ⟨g1, g2, g3⟩
    · rcases wrG_mem _ _ _ hb with hb | ⟨x, hx, e1, e2⟩
      · exact ⟨by have := (h.okM i b hb).1; omega, okL_mono hmono (h.okM i b hb).2⟩
      · obtain ⟨c, hc⟩ := Option.isSome_iff_exists.1 (hd.live x hx)
        rw [e1] at hc
        exact ⟨by have := (h.okM i c hc).1; omega, okL_mono hpn (hd.wr x hx b e2)⟩
    · exact ⟨by omega, okL_mono hpn (okBs_iff.1 hd.nw b g3)⟩
  · rw [h2]
    refine uniq_newAll _ _ _ (uniq_putAll _ _ h.uq) fun i hi => ?_
    rw [getM_putAll d.wr s.mem h.uq hd.live hd.nd i, wrG_none]
    · exact h.free hi
    · intro x hx e
      have := hd.live x hx
      rw [e, h.free hi] at this
      cases this

section
variable {P : Program} {S : FuncId → Option Sum} {z : Md} {all : List Oper}

def St.as (s : St) : AS := ⟨getT s.tm, getM s.mem⟩

/-- Numbers of new blocks: one after the other. -/
def ranged : Nat → List Rec → Nat → Prop
  | n, [], m => n ≤ m
  | n, r :: l, m => n ≤ r.nb ∧ ranged (r.nb + r.d.nw.length) l m

/-- The pass in the text's order. -/
theorem drawSeq_spec : ∀ {l : List Oper} {s : St} {acc : List Rec} {s' : St} {acc' : List Rec}, drawSeq P S z all l s acc = some (s', acc') → s.sz ≤ 60000 → StOK s →
    ∃ recs : List Rec, acc' = recs.reverse ++ acc ∧ recs.map (·.o) = l ∧ chain P S z all recs s.as ∧ fin recs s.as = s'.as ∧ ranged s.nb recs s'.nb ∧
      (∀ r ∈ recs, ∀ d, r.o.dst = some d → d < s.sz) ∧ s'.sz = s.sz ∧ StOK s' ∧ (Good s' → Good s ∧ ∀ r ∈ recs, (∀ c ∈ r.d.cs, c.1 = c.2) ∧ (∀ c ∈ r.gcs, c.1 = c.2))
  | [], s, acc, s', acc', h, _, hs => by
    simp only [drawSeq] at h
    cases h
    exact ⟨[], by simp, rfl, trivial, rfl, Nat.le_refl _, by simp, rfl, hs, fun hg => ⟨hg, by simp⟩⟩
  | o :: l, s, acc, s', acc', h, hsz, hs => by
    simp only [drawSeq] at h
    generalize decs z o s.dec = q at h
    obtain ⟨gd, pd, dec⟩ := q
    simp only at h
    split at h
    · rename_i d cs hd
      obtain ⟨s1, h1, h2, h3, h4, h5, h6, h7, _⟩ := appK_spec (a := { tmps := Array.replicate s.sz undef, defers := [] }) (by simp) hsz h
      have hok := stepD_ok (fun t => hs.okT t) hs.okM' hd
      have hs1 : StOK s1 := hs.app hok h5 h6 h7.1
      have has : s1.as = (Rec.mk o gd pd s.nb cs d).go s.as := by
        unfold St.as Rec.go
        simp only [h6, h7.1, hs.get hok]
      obtain ⟨recs, e1, e2, e3, e4, e5, e6, e7, e8, e9⟩ := drawSeq_spec h1 (by rw [h4]; exact hsz) hs1
      refine ⟨⟨o, gd, pd, s.nb, cs, d⟩ :: recs, by rw [e1]; simp, by simp [e2], ⟨hd, by rw [← has]; exact e3⟩, by rw [← e4, has]; rfl, ⟨Nat.le_refl _, by rw [← h5]; exact e5⟩, ?_, e7.trans h4, e8, fun hg => ?_⟩
      · intro r hr d' hd'
        rcases List.mem_cons.1 hr with rfl | hr
        · exact h7.2 d' hd'
        · have := e6 r hr d' hd'; rw [h4] at this; exact this
      · obtain ⟨g1, g2⟩ := e9 hg
        obtain ⟨c1, c2, c3⟩ := h2 g1
        refine ⟨c3, fun r hr => ?_⟩
        rcases List.mem_cons.1 hr with rfl | hr
        · exact ⟨c1, c2⟩
        · exact g2 r hr
    · cases h

theorem revR_eq : ∀ (l acc : List Rec), revR l acc = l.reverse ++ acc
  | [], _ => rfl
  | r :: l, acc => by simp [revR, revR_eq l]

-- what must go ahead of what
theorem preMask_bit {m : List Nat} : ∀ {l : List Edge} {x : Nat}, (preMask m l).testBit x = true → ∃ e ∈ l, Region.binds .any e = true ∧ (e.on = x ∨ (m.getD e.on 0).testBit x = true)
  | [], x, h => by simp [preMask] at h
  | e :: l, x, h => by
    simp only [preMask] at h
    split at h
    · rename_i hb
      simp only [Nat.testBit_or, Bool.or_eq_true, Nat.one_shiftLeft, Nat.testBit_two_pow, decide_eq_true_eq] at h
      rcases h with (h | h) | h
      · exact ⟨e, by simp, hb, .inl h⟩
      · exact ⟨e, by simp, hb, .inr h⟩
      · obtain ⟨e', h1, h2, h3⟩ := preMask_bit h
        exact ⟨e', by simp [h1], h2, h3⟩
    · obtain ⟨e', h1, h2, h3⟩ := preMask_bit h
      exact ⟨e', by simp [h1], h2, h3⟩

theorem masksOf_pre : ∀ (l : List Oper) (acc : List Nat), ∃ m, masksOf l acc = acc ++ m ∧ m.length = l.length
  | [], acc => ⟨[], by simp [masksOf], rfl⟩
  | o :: l, acc => by
    obtain ⟨m, h1, h2⟩ := masksOf_pre l (acc ++ [preMask acc o.after.toList])
    exact ⟨preMask acc o.after.toList :: m, by simp [masksOf, h1], by simp [h2]⟩

theorem masksOf_at : ∀ (l : List Oper) (acc : List Nat) (j : Nat) (o : Oper), l[j]? = some o → (masksOf l acc).getD (acc.length + j) 0 = preMask ((masksOf l acc).take (acc.length + j)) o.after.toList
  | [], acc, j, o, h => by simp at h
  | o' :: l, acc, 0, o, h => by
    simp only [List.getElem?_cons_zero, Option.some.injEq] at h
    subst h
    obtain ⟨m, h1, _⟩ := masksOf_pre l (acc ++ [preMask acc o'.after.toList])
    simp only [masksOf, h1]
    simp
  | o' :: l, acc, j + 1, o, h => by
    have := masksOf_at l (acc ++ [preMask acc o'.after.toList]) j o (by simpa using h)
    simp only [masksOf]
    simp only [List.length_append, List.length_cons, List.length_nil] at this
    rw [show acc.length + (j + 1) = acc.length + (0 + 1) + j by omega]
    exact this

theorem edgesDown_spec : ∀ {l : List Edge} {j : Nat}, edgesDown j l = true → ∀ e ∈ l, Region.binds .any e = true → e.on < j
  | [], j, _ => by simp
  | e :: l, j, h => by
    simp only [edgesDown] at h
    intro e' he' hb
    rcases List.mem_cons.1 he' with rfl | he'
    · rw [hb] at h
      simp only [nblt] at h
      split at h
      · rename_i hh; simpa using hh
      · cases h
    · split at h
      · split at h
        · exact edgesDown_spec h e' he' hb
        · cases h
      · exact edgesDown_spec h e' he' hb

theorem opsDown_spec : ∀ {l : List Oper} {j : Nat}, opsDown j l = true → ∀ k o, l[k]? = some o → ∀ e ∈ o.after.toList, Region.binds .any e = true → e.on < j + k
  | [], j, _, k, o, h => by simp at h
  | o' :: l, j, h, k, o, hk => by
    simp only [opsDown] at h
    split at h
    · rename_i hh
      cases k with
      | zero =>
        simp only [List.getElem?_cons_zero, Option.some.injEq] at hk
        subst hk
        exact edgesDown_spec hh
      | succ k =>
        intro e he hb
        have := opsDown_spec h k o (by simpa using hk) e he hb
        omega
    · cases h

/-- What stands in an operation's mask has been listed when the operation is ready. -/
theorem mask_listed {ops : List Oper} (hd : opsDown 0 ops = true) (L : Nat → Prop) (hL : ∀ k o, ops[k]? = some o → L k → ∀ e ∈ o.after.toList, Region.binds .any e = true → L e.on) :
    ∀ (j : Nat) (o : Oper), ops[j]? = some o → (∀ e ∈ o.after.toList, Region.binds .any e = true → L e.on) → ∀ x, ((masksOf ops []).getD j 0).testBit x = true → L x := by
  intro j
  induction j using Nat.strongRecOn with
  | _ j ih =>
    intro o ho hready x hx
    have hm := masksOf_at ops [] j o ho
    simp only [List.length_nil, Nat.zero_add] at hm
    rw [hm] at hx
    obtain ⟨e, he, hb, hor⟩ := preMask_bit hx
    have hlt : e.on < j := by have := opsDown_spec hd j o ho e he hb; omega
    rcases hor with h | h
    · rw [← h]; exact hready e he hb
    · have hget : ((masksOf ops []).take j).getD e.on 0 = (masksOf ops []).getD e.on 0 := by
        simp [List.getD, List.getElem?_take_of_lt hlt]
      rw [hget] at h
      have hjl : j < ops.length := (List.getElem?_eq_some_iff.1 ho).1
      have he' : ops[e.on]? = some ops[e.on] := List.getElem?_eq_getElem (by omega)
      exact ih e.on hlt _ he' (hL e.on _ he' (hready e he hb)) x h

theorem freeOf_spec {mask : Nat} {y : Rec} : ∀ {l : List Rec} {i : Nat}, freeOf all mask y i l = true → ∀ k x, l[k]? = some x → conf all x y = true → mask.testBit (i + k) = true
  | [], i, _, k, x, h => by simp at h
  | x' :: l, i, h, k, x, hk => by
    intro hc
    simp only [freeOf] at h
    cases k with
    | zero =>
      simp only [List.getElem?_cons_zero, Option.some.injEq] at hk
      subst hk
      rw [hc] at h
      simp only at h
      split at h
      · rename_i hh; simpa using hh
      · cases h
    | succ k =>
      have hrest : freeOf all mask y (i + 1) l = true := by
        split at h
        · split at h
          · exact h
          · cases h
        · exact h
      have := freeOf_spec hrest k x (by simpa using hk) hc
      rw [show i + (k + 1) = i + 1 + k by omega]
      exact this

theorem freeAll_spec {masks : List Nat} : ∀ {l : List Rec} {j : Nat} {done : List Rec}, freeAll all masks j done l = true → done.length = j →
    ∀ k y, l[k]? = some y → ∀ i x, i < j + k → (done ++ l)[i]? = some x → conf all x y = true → (masks.getD (j + k) 0).testBit i = true
  | [], j, done, _, _, k, y, h => by simp at h
  | y' :: l, j, done, h, hj, k, y, hk => by
    intro i x hi hx hc
    simp only [freeAll] at h
    split at h
    · rename_i hh
      cases k with
      | zero =>
        simp only [List.getElem?_cons_zero, Option.some.injEq] at hk
        subst hk
        rw [List.getElem?_append_left (by omega)] at hx
        have := freeOf_spec hh i x hx hc
        simpa using this
      | succ k =>
        have := freeAll_spec h (by simp [hj]) k y (by simpa using hk) i x (by omega) (by simpa using hx) hc
        rw [show j + (k + 1) = j + 1 + k by omega]
        exact this
    · cases h

end
end Go.Lr
