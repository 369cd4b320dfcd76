/- Joined texts. What each part proves stands ahead of it; no condition. -/
import Derived.Test.YtdkmiliehlhmbaaLrM1
import Derived.Laws.Externs
import Derived.KernelRfl
import Derived.Test.YtdkmiliehlhmbaaProg

/- The local evaluator: a region that draws its order, whatever the order. -/
namespace Go.Lr
open Go.RowKit

/-- What a state names lies below its bound. -/
structure StOK (s : St) : Prop where
  okT : ∀ t, (getT s.tm t).ok (below s.nb) = true
  okM : ∀ i b, getM s.mem i = some b → i < s.nb ∧ okL (below s.nb) b.cells = true
  uq : uniq s.mem

theorem StOK.okM' {s : St} (h : StOK s) : ∀ i c, getM s.mem i = some c → below s.nb i = true ∧ okL (below s.nb) c.cells = true :=
  fun i c hc => ⟨by have := (h.okM i c hc).1; simpa [below] using this, (h.okM i c hc).2⟩

theorem StOK.free {s : St} (h : StOK s) {i : Nat} (hi : s.nb ≤ i) : getM s.mem i = none := by
  cases hc : getM s.mem i with
  | none => rfl
  | some b => have := (h.okM i b hc).1; omega

theorem StOK.get {s : St} (h : StOK s) {d : Dl} (hd : OkD (below s.nb) (getM s.mem) s.nb d) : getM (newAll (putAll s.mem d.wr) s.nb d.nw) = nwG (wrG (getM s.mem) d.wr) s.nb d.nw := by
  funext k
  rw [getM_newAll]
  congr 1
  funext j
  exact getM_putAll d.wr s.mem h.uq hd.live hd.nd j

/-- The state behind an operation is in order. -/
theorem StOK.app {s s1 : St} (h : StOK s) {d : Dl} {dst : Option Tmp} (hd : OkD (below s.nb) (getM s.mem) s.nb d) (h1 : s1.nb = s.nb + d.nw.length) (h2 : s1.mem = newAll (putAll s.mem d.wr) s.nb d.nw)
    (h3 : getT s1.tm = updτ (getT s.tm) dst d.val) : StOK s1 := by
  have hmono : ∀ i, below s.nb i = true → below s1.nb i = true := fun i hi => by simp only [below, decide_eq_true_eq] at hi ⊢; omega
  have hpn : ∀ i, pn (below s.nb) s.nb d.nw.length i = true → below s1.nb i = true := fun i hi => by rw [h1]; exact below_pn hi
  refine ⟨fun t => ?_, fun i b hb => ?_, ?_⟩
  · rw [h3]
    unfold updτ
    cases dst with
    | none => exact LV.ok_mono hmono (h.okT t)
    | some e =>
      by_cases ht : t = e
      · simp only [ht, if_true]; exact LV.ok_mono hpn hd.val
      · simp only [ht, if_false]; exact LV.ok_mono hmono (h.okT t)
  · rw [h2, h.get hd] at hb
    rcases nwG_mem _ _ _ _ hb with hb | ⟨g1, g2, g3⟩
    · rcases wrG_mem _ _ _ hb with hb | ⟨x, hx, e1, e2⟩
      · exact ⟨by have := (h.okM i b hb).1; omega, okL_mono hmono (h.okM i b hb).2⟩
      · obtain ⟨c, hc⟩ := Option.isSome_iff_exists.1 (hd.live x hx)
        rw [e1] at hc
        exact ⟨by have := (h.okM i c hc).1; omega, okL_mono hpn (hd.wr x hx b e2)⟩
    · exact ⟨by omega, okL_mono hpn (okBs_iff.1 hd.nw b g3)⟩
  · rw [h2]
    refine uniq_newAll _ _ _ (uniq_putAll _ _ h.uq) fun i hi => ?_
    rw [getM_putAll d.wr s.mem h.uq hd.live hd.nd i, wrG_none]
    · exact h.free hi
    · intro x hx e
      have := hd.live x hx
      rw [e, h.free hi] at this
      cases this

section
variable {P : Program} {S : FuncId → Option SumK} {z : Md} {all : List Oper}

def St.as (s : St) : AS := ⟨getT s.tm, getM s.mem⟩

/-- Numbers of new blocks: one after the other. -/
def ranged : Nat → List Rec → Nat → Prop
  | n, [], m => n ≤ m
  | n, r :: l, m => n ≤ r.nb ∧ ranged (r.nb + r.d.nw.length) l m

/-- The pass in the text's order. -/
theorem drawSeq_spec : ∀ {l : List Oper} {s : St} {acc : List Rec} {s' : St} {acc' : List Rec}, drawSeq P S z all l s acc = some (s', acc') → s.sz ≤ 60000 → StOK s →
    ∃ recs : List Rec, acc' = recs.reverse ++ acc ∧ recs.map (·.o) = l ∧ chain P S z all recs s.as ∧ fin recs s.as = s'.as ∧ ranged s.nb recs s'.nb ∧
      (∀ r ∈ recs, ∀ d, r.o.dst = some d → d < s.sz) ∧ s'.sz = s.sz ∧ StOK s' ∧ (Good s' → Good s ∧ ∀ r ∈ recs, (∀ c ∈ r.d.cs, c.1 = c.2) ∧ (∀ c ∈ r.gcs, c.1 = c.2))
  | [], s, acc, s', acc', h, _, hs => by
    simp only [drawSeq] at h
    cases h
    exact ⟨[], by simp, rfl, trivial, rfl, Nat.le_refl _, by simp, rfl, hs, fun hg => ⟨hg, by simp⟩⟩
  | o :: l, s, acc, s', acc', h, hsz, hs => by
    simp only [drawSeq] at h
    generalize decs z o s.dec = q at h
    obtain ⟨gd, pd, dec⟩ := q
    simp only at h
    split at h
    · rename_i d cs hd
      obtain ⟨s1, h1, h2, h3, h4, h5, h6, h7, _⟩ := appK_spec (a := { tmps := Array.replicate s.sz undef, defers := [] }) (by simp) hsz h
      have hok := stepD_ok (fun t => hs.okT t) hs.okM' hd
      have hs1 : StOK s1 := hs.app hok h5 h6 h7.1
      have has : s1.as = (Rec.mk o gd pd s.nb cs d).go s.as := by
        unfold St.as Rec.go
        simp only [h6, h7.1, hs.get hok]
      obtain ⟨recs, e1, e2, e3, e4, e5, e6, e7, e8, e9⟩ := drawSeq_spec h1 (by rw [h4]; exact hsz) hs1
      refine ⟨⟨o, gd, pd, s.nb, cs, d⟩ :: recs, by rw [e1]; simp, by simp [e2], ⟨hd, by rw [← has]; exact e3⟩, by rw [← e4, has]; rfl, ⟨Nat.le_refl _, by rw [← h5]; exact e5⟩, ?_, e7.trans h4, e8, fun hg => ?_⟩
      · intro r hr d' hd'
        rcases List.mem_cons.1 hr with rfl | hr
        · exact h7.2 d' hd'
        · have := e6 r hr d' hd'; rw [h4] at this; exact this
      · obtain ⟨g1, g2⟩ := e9 hg
        obtain ⟨c1, c2, c3⟩ := h2 g1
        refine ⟨c3, fun r hr => ?_⟩
        rcases List.mem_cons.1 hr with rfl | hr
        · exact ⟨c1, c2⟩
        · exact g2 r hr
    · cases h

theorem revR_eq : ∀ (l acc : List Rec), revR l acc = l.reverse ++ acc
  | [], _ => rfl
  | r :: l, acc => by simp [revR, revR_eq l]

-- what must go ahead of what
theorem preMask_bit {m : List Nat} : ∀ {l : List Edge} {x : Nat}, (preMask m l).testBit x = true → ∃ e ∈ l, Region.binds .any e = true ∧ (e.on = x ∨ (m.getD e.on 0).testBit x = true)
  | [], x, h => by simp [preMask] at h
  | e :: l, x, h => by
    simp only [preMask] at h
    split at h
    · rename_i hb
      simp only [Nat.testBit_or, Bool.or_eq_true, Nat.one_shiftLeft, Nat.testBit_two_pow, decide_eq_true_eq] at h
      rcases h with (h | h) | h
      · exact ⟨e, by simp, hb, .inl h⟩
      · exact ⟨e, by simp, hb, .inr h⟩
      · obtain ⟨e', h1, h2, h3⟩ := preMask_bit h
        exact ⟨e', by simp [h1], h2, h3⟩
    · obtain ⟨e', h1, h2, h3⟩ := preMask_bit h
      exact ⟨e', by simp [h1], h2, h3⟩

theorem masksOf_pre : ∀ (l : List Oper) (acc : List Nat), ∃ m, masksOf l acc = acc ++ m ∧ m.length = l.length
  | [], acc => ⟨[], by simp [masksOf], rfl⟩
  | o :: l, acc => by
    obtain ⟨m, h1, h2⟩ := masksOf_pre l (acc ++ [preMask acc o.after.toList])
    exact ⟨preMask acc o.after.toList :: m, by simp [masksOf, h1], by simp [h2]⟩

theorem masksOf_at : ∀ (l : List Oper) (acc : List Nat) (j : Nat) (o : Oper), l[j]? = some o → (masksOf l acc).getD (acc.length + j) 0 = preMask ((masksOf l acc).take (acc.length + j)) o.after.toList
  | [], acc, j, o, h => by simp at h
  | o' :: l, acc, 0, o, h => by
    simp only [List.getElem?_cons_zero, Option.some.injEq] at h
    subst h
    obtain ⟨m, h1, _⟩ := masksOf_pre l (acc ++ [preMask acc o'.after.toList])
    simp only [masksOf, h1]
    simp
  | o' :: l, acc, j + 1, o, h => by
    have := masksOf_at l (acc ++ [preMask acc o'.after.toList]) j o (by simpa using h)
    simp only [masksOf]
    simp only [List.length_append, List.length_cons, List.length_nil] at this
    rw [show acc.length + (j + 1) = acc.length + (0 + 1) + j by omega]
    exact this

theorem edgesDown_spec : ∀ {l : List Edge} {j : Nat}, edgesDown j l = true → ∀ e ∈ l, Region.binds .any e = true → e.on < j
  | [], j, _ => by simp
  | e :: l, j, h => by
    simp only [edgesDown] at h
    intro e' he' hb
    rcases List.mem_cons.1 he' with rfl | he'
    · rw [hb] at h
      simp only [nblt] at h
      split at h
      · rename_i hh; simpa using hh
      · cases h
    · split at h
      · split at h
        · exact edgesDown_spec h e' he' hb
        · cases h
      · exact edgesDown_spec h e' he' hb

theorem opsDown_spec : ∀ {l : List Oper} {j : Nat}, opsDown j l = true → ∀ k o, l[k]? = some o → ∀ e ∈ o.after.toList, Region.binds .any e = true → e.on < j + k
  | [], j, _, k, o, h => by simp at h
  | o' :: l, j, h, k, o, hk => by
    simp only [opsDown] at h
    split at h
    · rename_i hh
      cases k with
      | zero =>
        simp only [List.getElem?_cons_zero, Option.some.injEq] at hk
        subst hk
        exact edgesDown_spec hh
      | succ k =>
        intro e he hb
        have := opsDown_spec h k o (by simpa using hk) e he hb
        omega
    · cases h

/-- What stands in an operation's mask has been listed when the operation is ready. -/
theorem mask_listed {ops : List Oper} (hd : opsDown 0 ops = true) (L : Nat → Prop) (hL : ∀ k o, ops[k]? = some o → L k → ∀ e ∈ o.after.toList, Region.binds .any e = true → L e.on) :
    ∀ (j : Nat) (o : Oper), ops[j]? = some o → (∀ e ∈ o.after.toList, Region.binds .any e = true → L e.on) → ∀ x, ((masksOf ops []).getD j 0).testBit x = true → L x := by
  intro j
  induction j using Nat.strongRecOn with
  | _ j ih =>
    intro o ho hready x hx
    have hm := masksOf_at ops [] j o ho
    simp only [List.length_nil, Nat.zero_add] at hm
    rw [hm] at hx
    obtain ⟨e, he, hb, hor⟩ := preMask_bit hx
    have hlt : e.on < j := by have := opsDown_spec hd j o ho e he hb; omega
    rcases hor with h | h
    · rw [← h]; exact hready e he hb
    · have hget : ((masksOf ops []).take j).getD e.on 0 = (masksOf ops []).getD e.on 0 := by
        simp [List.getD, List.getElem?_take_of_lt hlt]
      rw [hget] at h
      have hjl : j < ops.length := (List.getElem?_eq_some_iff.1 ho).1
      have he' : ops[e.on]? = some ops[e.on] := List.getElem?_eq_getElem (by omega)
      exact ih e.on hlt _ he' (hL e.on _ he' (hready e he hb)) x h

theorem freeOf_spec {mask : Nat} {y : Rec} : ∀ {l : List Rec} {i : Nat}, freeOf all mask y i l = true → ∀ k x, l[k]? = some x → conf all x y = true → mask.testBit (i + k) = true
  | [], i, _, k, x, h => by simp at h
  | x' :: l, i, h, k, x, hk => by
    intro hc
    simp only [freeOf] at h
    cases k with
    | zero =>
      simp only [List.getElem?_cons_zero, Option.some.injEq] at hk
      subst hk
      rw [hc] at h
      simp only at h
      split at h
      · rename_i hh; simpa using hh
      · cases h
    | succ k =>
      have hrest : freeOf all mask y (i + 1) l = true := by
        split at h
        · split at h
          · exact h
          · cases h
        · exact h
      have := freeOf_spec hrest k x (by simpa using hk) hc
      rw [show i + (k + 1) = i + 1 + k by omega]
      exact this

theorem freeAll_spec {masks : List Nat} : ∀ {l : List Rec} {j : Nat} {done : List Rec}, freeAll all masks j done l = true → done.length = j →
    ∀ k y, l[k]? = some y → ∀ i x, i < j + k → (done ++ l)[i]? = some x → conf all x y = true → (masks.getD (j + k) 0).testBit i = true
  | [], j, done, _, _, k, y, h => by simp at h
  | y' :: l, j, done, h, hj, k, y, hk => by
    intro i x hi hx hc
    simp only [freeAll] at h
    split at h
    · rename_i hh
      cases k with
      | zero =>
        simp only [List.getElem?_cons_zero, Option.some.injEq] at hk
        subst hk
        rw [List.getElem?_append_left (by omega)] at hx
        have := freeOf_spec hh i x hx hc
        simpa using this
      | succ k =>
        have := freeAll_spec h (by simp [hj]) k y (by simpa using hk) i x (by omega) (by simpa using hx) hc
        rw [show j + (k + 1) = j + 1 + k by omega]
        exact this
    · cases h

end
end Go.Lr

/- The local evaluator: a region that draws its order, against the model. -/
namespace Go.Lr
open Go.RowKit

/-- An abstract state in the model. -/
structure RA (sz : Nat) (E : Env) (p : Nat → Bool) (s : AS) (a : Act) (w : World) : Prop where
  size : a.tmps.size = sz
  tm : ∀ t : Nat, a.tmps.getD t undef = (s.τ t).den E
  defers : a.defers = []
  okT : ∀ t, (s.τ t).ok p = true
  rel : Rel E s.g w
  okM : ∀ i c, s.g i = some c → p i = true ∧ okL p c.cells = true

structure ExtG (N : Nat) (w : World) (E : Env) (g : Nat → Option Blk) (w' : World) (E' : Env) (g' : Nat → Option Blk) : Prop where
  agree : ∀ i, i < N → E' i = E i
  os : w'.os = w.os
  tape : w'.tape = w.tape
  output : w'.output = w.output
  size : w.heap.size ≤ w'.heap.size
  frame : ∀ b, b < w.heap.size → (∀ i, (g i).isSome → (E i).1 ≠ b) → w'.heap[b]? = w.heap[b]?
  src : ∀ i, (g' i).isSome → w.heap.size ≤ (E' i).1 ∨ ∃ j, (g j).isSome ∧ (E' i).1 = (E j).1

theorem ExtG.refl (N : Nat) (w : World) (E : Env) (g : Nat → Option Blk) : ExtG N w E g w E g :=
  ⟨fun _ _ => rfl, rfl, rfl, rfl, Nat.le_refl _, fun _ _ _ => rfl, fun i hi => .inr ⟨i, hi, rfl⟩⟩

theorem ExtG.trans {N : Nat} {w w1 w2 : World} {E E1 E2 : Env} {g g1 g2 : Nat → Option Blk} (h : ExtG N w E g w1 E1 g1) (k : ExtG N w1 E1 g1 w2 E2 g2) : ExtG N w E g w2 E2 g2 := by
  refine ⟨fun i hi => (k.agree i hi).trans (h.agree i hi), k.os.trans h.os, k.tape.trans h.tape, k.output.trans h.output, Nat.le_trans h.size k.size, fun b hb hn => ?_, fun i hi => ?_⟩
  · rw [← h.frame b hb hn]
    refine k.frame b (Nat.lt_of_lt_of_le hb h.size) fun i hi he => ?_
    rcases h.src i hi with h1 | ⟨j, hj, h1⟩
    · omega
    · exact hn j hj (h1.symm.trans he)
  · rcases k.src i hi with h1 | ⟨j, hj, h1⟩
    · exact .inl (Nat.le_trans h.size h1)
    · rcases h.src j hj with h2 | ⟨q, hq, h2⟩
      · exact .inl (by omega)
      · exact .inr ⟨q, hq, h1.trans h2⟩

section
variable {P : Program} {S : FuncId → Option SumK} {z : Md} {ops : Array Oper}

/-- One step in the model, from whatever state it is valid in. -/
theorem step_ra (hB : BinOK P) (hS : AllOK P S) {N sz i : Nat} {E : Env} {p : Nat → Bool} {s : AS} {a : Act} {w : World} {r : Rec} (hi : ops[i]? = some r.o) (hra : RA sz E p s a w) (hv : Val P S z ops.toList r s)
    (hN : N ≤ r.nb) (hfree : ∀ i, r.nb ≤ i → i < r.nb + r.d.nw.length → p i = false) (hdst : ∀ d, r.o.dst = some d → d < sz) (hc : ∀ c ∈ r.d.cs, c.1 = c.2) (hc' : ∀ c ∈ r.gcs, c.1 = c.2)
    {K : Act → World → Prop} {Q : Exit → Act → World → Prop}
    (hk : ∀ E' a' w', RA sz E' (pn p r.nb r.d.nw.length) (r.go s) a' w' → ExtG N w E s.g w' E' (r.go s).g → K a' w') : wpOp P ops Q i K a w := by
  have hok : OkD p s.g r.nb r.d := stepD_ok hra.okT hra.okM hv
  refine stepD_wp hB hS hi hra.tm hra.okT hra.rel hra.okM hfree hv hc hc' fun E' w' hp => ?_
  have hag : ∀ i, p i = true → E' i = E i := by
    intro j hj
    refine hp.agree j ?_
    by_cases h : r.nb ≤ j ∧ j < r.nb + r.d.nw.length
    · rw [hfree j h.1 h.2] at hj; cases hj
    · omega
  refine hk E' _ w' ⟨?_, fun t => ?_, ?_, fun t => ?_, hp.rel, fun j c hj => ?_⟩ ⟨fun j hj => hp.agree j (.inl (by omega)), hp.os, hp.tape, hp.output, hp.size, hp.frame, fun j hj => ?_⟩
  · cases hd : r.o.dst <;> simp [Act.put, hra.size]
  · unfold Rec.go updτ
    cases hd : r.o.dst with
    | none =>
      simp only [Act.put]
      rw [hra.tm t, LV.den_congr hag (hra.okT t)]
    | some d =>
      simp only [Act.put]
      rw [getD_set a.tmps d t _ (by rw [hra.size]; exact hdst d hd)]
      by_cases ht : t = d
      · simp [ht]
      · rw [if_neg ht, if_neg ht, hra.tm t, LV.den_congr hag (hra.okT t)]
  · cases hd : r.o.dst <;> exact hra.defers
  · unfold Rec.go updτ
    cases hd : r.o.dst with
    | none => exact LV.ok_mono (fun _ h => pn_of h) (hra.okT t)
    | some d =>
      by_cases ht : t = d
      · simp only [ht, if_true]; exact hok.val
      · simp only [ht, if_false]; exact LV.ok_mono (fun _ h => pn_of h) (hra.okT t)
  · have hj' : nwG (wrG s.g r.d.wr) r.nb r.d.nw j = some c := hj
    rcases nwG_mem _ _ _ _ hj' with h | ⟨g1, g2, g3⟩
    · rcases wrG_mem _ _ _ h with h | ⟨x, hx, e1, e2⟩
      · exact ⟨pn_of (hra.okM j c h).1, okL_mono (fun _ h => pn_of h) (hra.okM j c h).2⟩
      · obtain ⟨c', hc''⟩ := Option.isSome_iff_exists.1 (hok.live x hx)
        rw [e1] at hc''
        exact ⟨pn_of (hra.okM j c' hc'').1, hok.wr x hx c e2⟩
    · exact ⟨by simp [pn, g1, g2], okBs_iff.1 hok.nw c g3⟩
  · obtain ⟨c, hjc⟩ := Option.isSome_iff_exists.1 hj
    have hj' : nwG (wrG s.g r.d.wr) r.nb r.d.nw j = some c := hjc
    rcases nwG_mem _ _ _ _ hj' with h | ⟨g1, g2, _⟩
    · have hlive : (s.g j).isSome := by
        rcases wrG_mem _ _ _ h with h | ⟨x, hx, e1, _⟩
        · simp [h]
        · rw [← e1]; exact hok.live x hx
      obtain ⟨c', hc''⟩ := Option.isSome_iff_exists.1 hlive
      exact .inr ⟨j, hlive, by rw [hag j (hra.okM j c' hc'').1]⟩
    · exact hp.fresh j g1 g2

/-- The operations still to come, each with its number: what is not listed. -/
structure Todo (recs : List Rec) (listed : Array Bool) (rem : List (Nat × Rec)) : Prop where
  mem : ∀ (i : Nat) (r : Rec), (i, r) ∈ rem ↔ recs[i]? = some r ∧ listed.getD i true = false
  sorted : rem.Pairwise fun x y => x.1 < y.1

theorem ranged_le : ∀ {l : List Rec} {n m : Nat}, ranged n l m → n ≤ m
  | [], n, m, h => h
  | r :: l, n, m, h => by have := ranged_le h.2; have := h.1; omega

theorem ranged_at : ∀ {l : List Rec} {n m : Nat}, ranged n l m → ∀ (i : Nat) (r : Rec), l[i]? = some r → n ≤ r.nb ∧ r.nb + r.d.nw.length ≤ m
  | [], n, m, _, i, r, h => by simp at h
  | r' :: l, n, m, h, i, r, hi => by
    cases i with
    | zero =>
      simp only [List.getElem?_cons_zero, Option.some.injEq] at hi
      subst hi
      exact ⟨h.1, ranged_le h.2⟩
    | succ i =>
      obtain ⟨h1, h2⟩ := ranged_at h.2 i r (by simpa using hi)
      exact ⟨by have := h.1; omega, h2⟩

theorem ranged_apart : ∀ {l : List Rec} {n m : Nat}, ranged n l m → ∀ (i j : Nat) (x y : Rec), i < j → l[i]? = some x → l[j]? = some y → x.nb + x.d.nw.length ≤ y.nb
  | [], n, m, _, i, j, x, y, _ => fun h => by simp at h
  | r' :: l, n, m, h, i, j, x, y, hij => by
    intro hi hj
    cases j with
    | zero => omega
    | succ j =>
      cases i with
      | zero =>
        simp only [List.getElem?_cons_zero, Option.some.injEq] at hi
        subst hi
        exact (ranged_at h.2 j y (by simpa using hj)).1
      | succ i => exact ranged_apart h.2 i j x y (by omega) (by simpa using hi) (by simpa using hj)

theorem split_at {rem : List (Nat × Rec)} {i : Nat} {r : Rec} (h : (i, r) ∈ rem) : ∃ A B, rem = A ++ (i, r) :: B := List.append_of_mem h

theorem draw_main (hB : BinOK P) (hS : AllOK P S) {N sz M : Nat} {recs : List Rec} (hrec : recs.map (·.o) = ops.toList) (hdown : opsDown 0 ops.toList = true)
    (hconf : ∀ (i j : Nat) (x y : Rec), i < j → recs[i]? = some x → recs[j]? = some y → conf ops.toList x y = true → ((masksOf ops.toList []).getD j 0).testBit i = true)
    (hrng : ranged N recs M) (hdst : ∀ r ∈ recs, ∀ d, r.o.dst = some d → d < sz) (hcs : ∀ r ∈ recs, (∀ c ∈ r.d.cs, c.1 = c.2) ∧ (∀ c ∈ r.gcs, c.1 = c.2)) {Q : Exit → Act → World → Prop} :
    ∀ (fuel : Nat) (rem : List (Nat × Rec)) (listed : Array Bool) (s : AS) (E : Env) (p : Nat → Bool) (a : Act) (w : World), rem.length = fuel → listed.size = ops.size → Todo recs listed rem →
      (∀ k o, ops[k]? = some o → listed.getD k true = true → ∀ e ∈ o.after.toList, Region.binds .any e = true → listed.getD e.on false = true) →
      chain P S z ops.toList (rem.map (·.2)) s → RA sz E p s a w → (∀ i, p i = true → i < M) → (∀ i, p i = true → ∀ x ∈ rem, ¬(x.2.nb ≤ i ∧ i < x.2.nb + x.2.d.nw.length)) →
      (∀ E' p' a' w', RA sz E' p' (fin (rem.map (·.2)) s) a' w' → (∀ i, p' i = true → i < M) → ExtG N w E s.g w' E' (fin (rem.map (·.2)) s).g → Q .normal a' w') →
      wpAny P .any ops Q fuel listed a w := by
  have hopsrec : ∀ (i : Nat) (r : Rec), recs[i]? = some r → ops[i]? = some r.o := by
    intro i r h
    have : (recs.map (·.o))[i]? = some r.o := by simp [h]
    rw [hrec] at this
    simpa using this
  have hlen : recs.length = ops.size := by have := congrArg List.length hrec; simpa using this
  -- an operation that is not listed, the first of them: ready
  have hready0 : ∀ (rem : List (Nat × Rec)) (listed : Array Bool), listed.size = ops.size → Todo recs listed rem → Region.ready .any ops listed = [] → rem = [] := by
    intro rem listed hls ht hr
    cases rem with
    | nil => rfl
    | cons x rem =>
      exfalso
      obtain ⟨i, r⟩ := x
      obtain ⟨h1, h2⟩ := (ht.mem i r).1 (by simp)
      have hops := hopsrec i r h1
      have hi : i < ops.size := (Array.getElem?_eq_some_iff.1 hops).1
      have hmem : i ∈ Region.ready .any ops listed := by
        unfold Region.ready
        simp only [List.mem_filter, List.mem_range, hi, true_and, h2, Bool.not_false, hops, Option.map_some, Option.getD_some, Bool.true_and]
        rw [Array.all_eq_true]
        intro k hk
        by_cases hb : Region.binds .any r.o.after[k] = true
        · have hlt := opsDown_spec hdown i r.o (by simpa using hops) r.o.after[k] (by simp) hb
          simp only [Nat.zero_add] at hlt
          have hlst : listed.getD r.o.after[k].on false = true := by
            have hsz : r.o.after[k].on < listed.size := by omega
            cases hh : listed.getD r.o.after[k].on true with
            | true =>
              have e1 : listed.getD r.o.after[k].on false = listed.getD r.o.after[k].on true := by simp [hsz]
              rw [e1]; exact hh
            | false =>
              exfalso
              have hql : r.o.after[k].on < recs.length := by omega
              obtain ⟨q, hq⟩ : ∃ q, recs[r.o.after[k].on]? = some q := ⟨_, List.getElem?_eq_getElem hql⟩
              have := (ht.mem _ q).2 ⟨hq, hh⟩
              rcases List.mem_cons.1 this with he | he
              · injection he with e1 _; omega
              · have := List.rel_of_pairwise_cons ht.sorted he
                simp only at this
                omega
          simp [hlst]
        · simp [hb]
      rw [hr] at hmem
      cases hmem
  intro fuel
  induction fuel with
  | zero =>
    intro rem listed s E p a w hf hls ht hcl hch hra hpM hpf hQ
    have hrem : rem = [] := List.length_eq_zero_iff.1 hf
    subst hrem
    refine ⟨?_, hQ E p a w hra hpM (.refl _ _ _ _)⟩
    cases hr : Region.ready .any ops listed with
    | nil => rfl
    | cons i l =>
      exfalso
      have hi : i ∈ Region.ready .any ops listed := by rw [hr]; simp
      unfold Region.ready at hi
      simp only [List.mem_filter, List.mem_range, Bool.and_eq_true, Bool.not_eq_true'] at hi
      have hql : i < recs.length := by omega
      obtain ⟨q, hq⟩ : ∃ q, recs[i]? = some q := ⟨_, List.getElem?_eq_getElem hql⟩
      have := (ht.mem i q).2 ⟨hq, hi.2.1⟩
      cases this
  | succ fuel ih =>
    intro rem listed s E p a w hf hls ht hcl hch hra hpM hpf hQ
    refine ⟨fun hr => ?_, fun i hi => ?_⟩
    · have := hready0 rem listed hls ht hr
      rw [this] at hf
      simp at hf
    · unfold Region.ready at hi
      simp only [List.mem_filter, List.mem_range, Bool.and_eq_true, Bool.not_eq_true'] at hi
      obtain ⟨hilt, hnl, haft⟩ := hi
      have hql : i < recs.length := by omega
      obtain ⟨r, hr⟩ : ∃ q, recs[i]? = some q := ⟨_, List.getElem?_eq_getElem hql⟩
      have hops := hopsrec i r hr
      have hin : (i, r) ∈ rem := (ht.mem i r).2 ⟨hr, hnl⟩
      have hedges : ∀ e ∈ r.o.after.toList, Region.binds .any e = true → listed.getD e.on false = true := by
        intro e he hb
        rw [hops] at haft
        simp only [Option.map_some, Option.getD_some] at haft
        rw [Array.all_eq_true'] at haft
        have := haft e (by simpa using he)
        simpa [hb] using this
      obtain ⟨A, B, rfl⟩ := split_at hin
      have hsorted := ht.sorted
      rw [List.pairwise_append] at hsorted
      obtain ⟨_, hsB, hAB⟩ := hsorted
      have hapart : ∀ x ∈ A.map (·.2), Apart ops.toList x r := by
        intro x hx
        obtain ⟨⟨k, x'⟩, hk, rfl⟩ := List.mem_map.1 hx
        obtain ⟨g1, g2⟩ := (ht.mem k x').1 (by simp [hk])
        have hki : k < i := hAB (k, x') hk (i, r) (by simp)
        refine conf_apart ?_
        cases hc : conf ops.toList x' r with
        | false => rfl
        | true =>
          exfalso
          have hbit := hconf k i x' r hki g1 hr hc
          have := mask_listed hdown (fun q => listed.getD q true = true) (fun q o hq hl e he hb => by
            have hx := hcl q o (by simpa using hq) hl e he hb
            have hsz : e.on < listed.size := by
              by_cases hh : e.on < listed.size
              · exact hh
              · simp [Array.getD, hh] at hx
            simpa [hsz] using hx) i r.o (by simpa using hops) (fun e he hb => by
            have hx := hedges e he hb
            have hsz : e.on < listed.size := by
              by_cases hh : e.on < listed.size
              · exact hh
              · simp [Array.getD, hh] at hx
            simpa [hsz] using hx) k hbit
          rw [g2] at this
          cases this
      rw [List.map_append, List.map_cons] at hch hQ
      obtain ⟨c1, c2, c3⟩ := chain_front hch hapart
      have hrin : r ∈ recs := List.mem_of_getElem? hr
      refine step_ra hB hS (N := N) hops hra c1 (ranged_at hrng i r hr).1 (fun j h1 h2 => ?_) (hdst r hrin) (hcs r hrin).1 (hcs r hrin).2 fun E' a' w' hra' hext => ?_
      · cases hpj : p j with
        | false => rfl
        | true => exact absurd ⟨h1, h2⟩ (hpf j hpj (i, r) (by simp))
      · have hsz' : (listed.setIfInBounds i true).size = ops.size := by simp [hls]
        have hget : ∀ q d, (listed.setIfInBounds i true).getD q d = if q = i then true else listed.getD q d := by
          intro q d
          by_cases hq : q = i
          · subst hq
            have : q < listed.size := by omega
            simp [this]
          · rw [if_neg hq]
            simp [Array.getElem?_setIfInBounds_ne (Ne.symm hq)]
        refine ih (A ++ B) (listed.setIfInBounds i true) (r.go s) E' _ a' w' (by simp at hf ⊢; omega) hsz' ⟨fun j x => ?_, ?_⟩ (fun k o hk hl e he hb => ?_) (by rw [List.map_append]; exact c2) hra' (fun j hj => ?_) (fun j hj x hx => ?_) ?_
        · rw [hget j true]
          have hm := ht.mem j x
          by_cases hji : j = i
          · subst hji
            rw [if_pos rfl]
            refine ⟨fun h => ?_, fun h => absurd h.2 (by simp)⟩
            exfalso
            rcases List.mem_append.1 h with h | h
            · have := hAB (j, x) h (j, r) (by simp)
              simp at this
            · have := List.rel_of_pairwise_cons hsB h
              simp at this
          · rw [if_neg hji, ← hm]
            constructor
            · intro h
              rcases List.mem_append.1 h with h | h
              · simp [h]
              · simp [h]
            · intro h
              rcases List.mem_append.1 h with h | h
              · simp [h]
              · rcases List.mem_cons.1 h with h | h
                · injection h with e1 _; exact absurd e1 hji
                · simp [h]
        · refine ht.sorted.sublist ?_
          exact List.Sublist.append_left (List.sublist_cons_self _ _) A
        · rw [hget] at hl ⊢
          by_cases hki : k = i
          · subst hki
            rw [hops] at hk
            cases hk
            have := hedges e he hb
            by_cases he' : e.on = k <;> simp [he', this]
          · rw [if_neg hki] at hl
            have := hcl k o hk hl e he hb
            by_cases he' : e.on = i <;> simp [he', this]
        · simp only [pn, Bool.or_eq_true, Bool.and_eq_true, decide_eq_true_eq] at hj
          rcases hj with hj | hj
          · exact hpM j hj
          · have := (ranged_at hrng i r hr).2; omega
        · simp only [pn, Bool.or_eq_true, Bool.and_eq_true, decide_eq_true_eq] at hj
          have hxin : x ∈ A ++ (i, r) :: B := by
            rcases List.mem_append.1 hx with h | h
            · simp [h]
            · simp [h]
          rcases hj with hj | hj
          · exact hpf j hj x hxin
          · intro hcon
            obtain ⟨k, y⟩ := x
            obtain ⟨g1, _⟩ := (ht.mem k y).1 hxin
            have hne : k ≠ i := by
              rintro rfl
              rcases List.mem_append.1 hx with h | h
              · have := hAB (k, y) h (k, r) (by simp); simp at this
              · have := List.rel_of_pairwise_cons hsB h; simp at this
            rcases Nat.lt_or_gt_of_ne hne with hlt | hlt
            · have := ranged_apart hrng k i y r hlt g1 hr; simp only at hcon; omega
            · have := ranged_apart hrng i k r y hlt hr g1; simp only at hcon; omega
        · intro E'' p'' a'' w'' h1 h2 h3
          rw [List.map_append] at h1 h3
          rw [← c3] at h1 h3
          exact hQ E'' p'' a'' w'' h1 h2 (hext.trans h3)

end
end Go.Lr

/- The local evaluator: whole bodies, loops, calls walked into, against the model. -/
namespace Go.Lr
open Go.RowKit

def Ex.to : Ex → Exit
  | .normal => .normal
  | .exit id => .exit id
  | .ret => .ret

section
variable {P : Program} {S : FuncId → Option SumK} {z : Md}

theorem R.st {E : Env} {s : St} {a : Act} {w : World} (h : R E s a w) : StOK s := ⟨h.okT, h.m.okM, h.m.uq⟩

theorem drawRun_wp (hB : BinOK P) (hS : AllOK P S) (hmix : P.follows .mixedOrders = true) {ops : Array Oper} {s s' : St} (h : drawRun P S z ops.toList s = some s') (hsz : s.sz ≤ 60000) (hs : StOK s) :
    (Good s' → Good s) ∧ StOK s' ∧ s'.sz = s.sz ∧ s.nb ≤ s'.nb ∧ (Good s' → ∀ (id : Nat) (E : Env) (a : Act) (w : World), R E s a w → ∀ Q : Exit → Act → World → Prop, (∀ E' a' w', R E' s' a' w' → Ext w E s w' E' s' → Q .normal a' w') →
      (Code.region id ops true).wp P Q a w) := by
  unfold drawRun at h
  split at h
  · rename_i s1 acc hd
    split at h
    · rename_i hfree hdown
      cases h
      obtain ⟨recs, e1, e2, e3, e4, e5, e6, e7, e8, e9⟩ := drawSeq_spec hd hsz hs
      refine ⟨fun hg => (e9 hg).1, e8, e7, ranged_le e5, fun hg id E a w hr Q hQ => ?_⟩
      obtain ⟨g1, g2⟩ := e9 hg
      refine wp_region_any hmix ?_
      have hrev : revR acc [] = recs := by rw [revR_eq, e1]; simp
      rw [hrev] at hfree
      have hlen : recs.length = ops.size := by have := congrArg List.length e2; simpa using this
      have hrem : ((List.range recs.length).zip recs).map (·.2) = recs := by
        rw [List.map_snd_zip]; simp
      refine draw_main (z := z) (N := s.nb) (sz := s.sz) (M := s'.nb) hB hS e2 hdown (fun i j x y hij hx hy hc => ?_) e5 e6 g2 ops.size ((List.range recs.length).zip recs) (Array.replicate ops.size false) s.as E (below s.nb) a { w with drawn := w.drawn + 1 } ?_ ?_ ⟨fun i r => ?_, ?_⟩ ?_ ?_ ?_ ?_ ?_ ?_
      · have := freeAll_spec hfree rfl j y hy i x (by omega) (by simpa using hx) hc
        simpa using this
      · simp [hlen]
      · simp
      · constructor
        · intro h
          obtain ⟨k, hk⟩ := List.mem_iff_getElem?.1 h
          rw [List.getElem?_zip_eq_some] at hk
          obtain ⟨k1, k2⟩ := hk
          have hkl : k < recs.length := (List.getElem?_eq_some_iff.1 k2).1
          rw [List.getElem?_range hkl] at k1
          cases k1
          refine ⟨k2, ?_⟩
          have : i < ops.size := by omega
          simp [this]
        · intro h
          obtain ⟨h1, _⟩ := h
          have hkl : i < recs.length := (List.getElem?_eq_some_iff.1 h1).1
          refine List.mem_iff_getElem?.2 ⟨i, ?_⟩
          rw [List.getElem?_zip_eq_some]
          exact ⟨List.getElem?_range hkl, h1⟩
      · have hp : (((List.range recs.length).zip recs).map (·.1)).Pairwise (· < ·) := by
          rw [List.map_fst_zip (by simp)]
          exact List.pairwise_lt_range
        exact (List.pairwise_map.1 hp)
      · intro k o hk hl
        exfalso
        have : k < ops.size := (Array.getElem?_eq_some_iff.1 hk).1
        simp [this] at hl
      · rw [hrem]; exact e3
      · exact ⟨hr.size, hr.tm, hr.defers, hr.okT, ⟨fun i b hb => hr.m.rel.blk i b hb, hr.m.rel.inj⟩, hs.okM'⟩
      · intro i hi
        have := ranged_le e5
        simp only [below, decide_eq_true_eq] at hi
        omega
      · intro i hi x hx
        obtain ⟨k, r⟩ := x
        have hr' : r ∈ recs := (List.of_mem_zip hx).2
        obtain ⟨q, hq⟩ := List.mem_iff_getElem?.1 hr'
        have := (ranged_at e5 q r hq).1
        simp only [below, decide_eq_true_eq] at hi
        simp only
        omega
      · intro E' p' a' w' h1 h2 h3
        rw [hrem, e4] at h1 h3
        have hmono : ∀ i, p' i = true → below s'.nb i = true := fun i hi => by simpa [below] using h2 i hi
        refine hQ E' a' w' ⟨h1.size.trans e7.symm, by rw [e7]; exact hsz, h1.tm, h1.defers, e8.okT, ⟨h1.rel, e8.okM, e8.uq⟩⟩ ?_
        exact ⟨ranged_le e5, h3.agree, h3.os, h3.tape, h3.output, h3.size, h3.frame, h3.src⟩
    · cases h
  · cases h

-- results
def resSem (tmps : Array Value) : ResultVar → Sem Value
  | .tmp t => pure (tmps.getD t undef)
  | .cell a t => do loadVar t (← asAddr (tmps.getD a undef))

theorem results_eq (fn : Func) (tmps : Array Value) : results fn tmps = (do let vs ← fn.results.mapM (resSem tmps); pure (if h : vs.size = 1 then vs[0] else .tuple vs)) := by
  have : resSem tmps = (fun r => match r with
      | .tmp t => pure (tmps.getD t undef)
      | .cell a t => do loadVar t (← asAddr (tmps.getD a undef))) := by
    funext r
    cases r <;> rfl
  rw [this]
  rfl

theorem resVals_spec {E : Env} {s : St} {w : World} {tmps : Array Value} (hm : Rel E (getM s.mem) w) (hτ : ∀ t : Nat, tmps.getD t undef = (getT s.tm t).den E) : ∀ {rs : List ResultVar} {vs : List LV}, resVals P (getT s.tm) s.mem rs = some vs →
    (rs.mapM (resSem tmps)).run P w = .ok (vs.map (LV.den E)) w
  | [], vs, h => by simp only [resVals] at h; cases h; simp
  | r :: rs, vs, h => by
    simp only [resVals] at h
    split at h
    · rename_i v vs' hv hvs
      cases h
      have h1 : (resSem tmps r).run P w = .ok (v.den E) w := by
        cases r with
        | tmp t =>
          simp only [resVal, Option.some.injEq] at hv
          subst hv
          simp only [resSem, Sem.run_pure, hτ t]
        | cell a t =>
          simp only [resVal] at hv
          split at hv
          · rename_i d hd
            cases hv
            unfold loadD at hd
            split at hd
            · rename_i b o hb
              split at hd
              · rename_i k hk
                split at hd
                · rename_i x hx
                  cases hd
                  have := loadVar_spec (P := P) (hm.blk b k hk) hx
                  simp only [resSem, Sem.run_bind, hτ a, hb, den_ptr, asAddr, Sem.run_pure, Result.andThen_ok, this]
                  rfl
                · cases hd
              · cases hd
            · cases hd
          · cases hv
      simp only [List.mapM_cons, Sem.run_bind, h1, Result.andThen_ok, resVals_spec hm hτ hvs, Sem.run_pure, List.map_cons]
    · cases h

theorem oneVs_spec {E : Env} : ∀ {vs : List LV} {l : List V1}, oneVs vs = some l → vs.map (LV.den E) = l.map (V1.den E)
  | [], l, h => by simp only [oneVs] at h; cases h; rfl
  | .v x :: vs, l, h => by
    simp only [oneVs] at h
    split at h
    · rename_i r hr; cases h; simp [oneVs_spec hr, LV.den]
    · cases h
  | .tup _ :: vs, l, h => by simp [oneVs] at h

theorem resultsD_spec {E : Env} {s : St} {w : World} {tmps : Array Value} {fn : Func} {v : LV} (hm : Rel E (getM s.mem) w) (hτ : ∀ t : Nat, tmps.getD t undef = (getT s.tm t).den E)
    (h : resultsD P fn.results.toList (getT s.tm) s.mem = some v) : (results fn tmps).run P w = .ok (v.den E) w := by
  have key : ∀ vs, resVals P (getT s.tm) s.mem fn.results.toList = some vs → (results fn tmps).run P w = .ok (if h : (vs.map (LV.den E)).toArray.size = 1 then (vs.map (LV.den E)).toArray[0] else .tuple (vs.map (LV.den E)).toArray) w := by
    intro vs hvs
    have := resVals_spec (P := P) hm hτ hvs
    rw [results_eq, Array.mapM_eq_mapM_toList]
    simp only [Sem.run_bind, Sem.run_map]
    rw [this]
    simp only [Result.andThen_ok, Sem.run_pure]
  unfold resultsD at h
  split at h
  · rename_i u hu
    cases h
    rw [key _ hu]
    simp
  · rename_i vs hne hvs
    split at h
    · rename_i l hl
      cases h
      rw [key _ hvs]
      rw [dif_neg]
      · simp only [LV.den]
        rw [oneVs_spec hl]
      · intro h1
        have : vs.length = 1 := by simpa using h1
        match vs, this with
        | [x], _ => exact hne x rfl
    · cases h
  · cases h

theorem resVals_ok {p : Nat → Bool} {τ : Nat → LV} {m : Mem} (hτ : ∀ t, (τ t).ok p = true) (hg : ∀ i c, getM m i = some c → p i = true ∧ okL p c.cells = true) : ∀ {rs : List ResultVar} {vs : List LV}, resVals P τ m rs = some vs → ∀ v ∈ vs, v.ok p = true
  | [], vs, h => by simp only [resVals] at h; cases h; simp
  | r :: rs, vs, h => by
    simp only [resVals] at h
    split at h
    · rename_i v vs' hv hvs
      cases h
      simp only [List.mem_cons, forall_eq_or_imp]
      refine ⟨?_, resVals_ok hτ hg hvs⟩
      cases r with
      | tmp t => simp only [resVal, Option.some.injEq] at hv; subst hv; exact hτ t
      | cell a t =>
        simp only [resVal] at hv
        split at hv
        · rename_i d hd
          cases hv
          unfold loadD at hd
          split at hd
          · split at hd
            · rename_i k hk
              split at hd
              · rename_i x hx
                cases hd
                exact partV_ok hx (hg _ _ hk).2
              · cases hd
            · cases hd
          · cases hd
        · cases hv
    · cases h

theorem oneVs_ok {p : Nat → Bool} : ∀ {vs : List LV} {l : List V1}, oneVs vs = some l → (∀ v ∈ vs, v.ok p = true) → okVs p l = true
  | [], l, h, _ => by simp only [oneVs] at h; cases h; rfl
  | .v x :: vs, l, h, hv => by
    simp only [oneVs] at h
    split at h
    · rename_i r hr
      cases h
      rw [okVs_iff]
      simp only [List.mem_cons, forall_eq_or_imp]
      exact ⟨hv (.v x) (by simp), okVs_iff.1 (oneVs_ok hr fun v hm => hv v (by simp [hm]))⟩
    · cases h
  | .tup _ :: vs, l, h, _ => by simp [oneVs] at h

theorem resultsD_ok {p : Nat → Bool} {τ : Nat → LV} {m : Mem} {rs : List ResultVar} {v : LV} (hτ : ∀ t, (τ t).ok p = true) (hg : ∀ i c, getM m i = some c → p i = true ∧ okL p c.cells = true) (h : resultsD P rs τ m = some v) : v.ok p = true := by
  unfold resultsD at h
  split at h
  · rename_i u hu
    cases h
    exact resVals_ok hτ hg hu _ (by simp)
  · rename_i vs _ hvs
    split at h
    · rename_i l hl
      cases h
      exact oneVs_ok hl (resVals_ok hτ hg hvs)
    · cases h
  · cases h

-- a frame's first state
theorem argsTK_eq {β : Type} : ∀ (t : Tr) (i : Nat) (l : List LV) (k : Tr → β), argsTK t i l k = k (argsT t i l)
  | _, _, [], _ => rfl
  | t, i, v :: l, k => by simp only [argsTK, argsT, setTK_eq, argsTK_eq]

theorem getT_argsT : ∀ (l : List LV) (t : Tr) (i : Nat) (j : Nat), i + l.length < 65535 → getT (argsT t i l) j = if i ≤ j ∧ j < i + l.length then l.getD (j - i) undefL else getT t j
  | [], t, i, j, _ => by
    simp only [argsT, List.length_nil]
    rw [if_neg (by omega)]
  | v :: l, t, i, j, h => by
    simp only [List.length_cons] at h ⊢
    simp only [argsT]
    rw [getT_argsT l _ (i + 1) j (by omega), getT_setT 16 t i v j (by omega)]
    by_cases h1 : j = i
    · subst h1
      rw [if_neg (by omega), if_pos rfl, if_pos (by omega)]
      simp
    · by_cases h2 : i ≤ j ∧ j < i + (l.length + 1)
      · rw [if_pos (by omega), if_pos h2]
        rw [show j - i = (j - (i + 1)) + 1 by omega]
        simp
      · rw [if_neg (by omega), if_neg h1, if_neg h2]

end
end Go.Lr

/- The local evaluator is sound: what it tells of a body holds of the model's. -/
namespace Go.Lr
open Go.RowKit

theorem getM_dropM (nb : Nat) : ∀ (m : Mem) (i : Nat), getM (dropM nb m) i = if i < nb then getM m i else none
  | [], i => by simp [dropM, getM]
  | (j, b) :: m, i => by
    simp only [dropM, nblt]
    by_cases hj : j < nb
    · simp only [hj, decide_true]
      rw [getM_cons, getM_cons, getM_dropM nb m i]
      by_cases hi : i = j
      · subst hi; simp [hj]
      · simp [hi]
    · simp only [hj, decide_false]
      rw [getM_cons, getM_dropM nb m i]
      by_cases hi : i < nb
      · rw [if_pos hi, if_pos hi, if_neg (by omega)]
      · rw [if_neg hi, if_neg hi]

theorem uniq_dropM (nb : Nat) : ∀ (m : Mem), uniq m → uniq (dropM nb m)
  | [], _ => trivial
  | (j, b) :: m, h => by
    simp only [dropM]
    split
    · refine ⟨?_, uniq_dropM nb m h.2⟩
      rw [getM_dropM, h.1]
      simp
    · exact uniq_dropM nb m h.2

theorem backM_spec {β : Type} {y : Bool} {nb : Nat} {v : LV} {m : Mem} {k : Mem → β} {r : β} (h : backM y nb v m k = r) : ∃ m', k m' = r ∧ (uniq m → uniq m') ∧ ∀ i b, getM m' i = some b → getM m i = some b := by
  have hm : k m = r → ∃ m', k m' = r ∧ (uniq m → uniq m') ∧ ∀ i b, getM m' i = some b → getM m i = some b := fun h => ⟨m, h, id, fun _ _ h => h⟩
  unfold backM at h
  split at h
  · exact hm h
  · split at h
    · rw [forceL_eq] at h
      refine ⟨_, h, uniq_dropM nb m, fun i b hb => ?_⟩
      rw [getM_dropM] at hb
      split at hb
      · exact hb
      · cases hb
    · exact hm h

theorem Rel.sub {E : Env} {g g' : Nat → Option Blk} {w : World} (h : Rel E g w) (hs : ∀ i b, g' i = some b → g i = some b) : Rel E g' w := by
  have hsome : ∀ i, (g' i).isSome → (g i).isSome := by
    intro i hi
    obtain ⟨b, hb⟩ := Option.isSome_iff_exists.1 hi
    simp [hs i b hb]
  exact ⟨fun i b hb => h.blk i b (hs i b hb), fun i j hi hj he => h.inj i j (hsome i hi) (hsome j hj) he⟩

section
variable {P : Program} {S : FuncId → Option SumK} {z : Md}

def SC (P : Program) (S : FuncId → Option SumK) (z : Md) (n : Nat) : Prop :=
  ∀ (c : Code) (s : St) (out : Out) (s' : St), exec P S z n (.code c) s = some (out, s') → s.sz ≤ 60000 → StOK s →
    ∃ e, out = .ex e ∧ (Good s' → Good s) ∧ StOK s' ∧ s'.sz = s.sz ∧ s.nb ≤ s'.nb ∧
      (Good s' → ∀ (E : Env) (a : Act) (w : World), R E s a w → ∀ Q : Exit → Act → World → Prop, (∀ E' a' w', R E' s' a' w' → Ext w E s w' E' s' → Q e.to a' w') → c.wp P Q a w)

def SL (P : Program) (S : FuncId → Option SumK) (z : Md) (n : Nat) : Prop :=
  ∀ (c : Code) (s : St) (out : Out) (s' : St), exec P S z n (.code (.loop c)) s = some (out, s') → s.sz ≤ 60000 → StOK s →
    ∃ e m, out = .ex e ∧ (Good s' → Good s) ∧ StOK s' ∧ s'.sz = s.sz ∧ s.nb ≤ s'.nb ∧
      (Good s' → ∀ (E : Env) (a : Act) (w : World), R E s a w → ∀ Q : Exit → Act → World → Prop, (∀ E' a' w', R E' s' a' w' → Ext w E s w' E' s' → Q e.to a' w') → Code.rounds P c Q m a w)

def SO (P : Program) (S : FuncId → Option SumK) (z : Md) (n : Nat) : Prop :=
  ∀ (all l : List Oper) (s : St) (out : Out) (s' : St), exec P S z n (.ops all l) s = some (out, s') → s.sz ≤ 60000 → StOK s →
    out = .ex .normal ∧ (Good s' → Good s) ∧ StOK s' ∧ s'.sz = s.sz ∧ s.nb ≤ s'.nb ∧
      (Good s' → ∀ (ops : Array Oper) (k : Nat), ops.toList = all → all.drop k = l → ∀ (E : Env) (a : Act) (w : World), R E s a w → ∀ Q : Exit → Act → World → Prop,
        (∀ E' a' w', R E' s' a' w' → Ext w E s w' E' s' → Q .normal a' w') → wpOps P ops Q (List.range' k l.length) a w)

def SB (P : Program) (S : FuncId → Option SumK) (z : Md) (n : Nat) : Prop :=
  ∀ (f : FuncId) (args : List LV) (s : St) (out : Out) (s' : St), exec P S z n (.body f args) s = some (out, s') → (∀ i b, getM s.mem i = some b → i < s.nb ∧ okL (below s.nb) b.cells = true) → uniq s.mem →
    (∀ v ∈ args, v.ok (below s.nb) = true) →
    ∃ v, out = .val v ∧ (Good s' → Good s) ∧ s.nb ≤ s'.nb ∧ (∀ i b, getM s'.mem i = some b → i < s'.nb ∧ okL (below s'.nb) b.cells = true) ∧ uniq s'.mem ∧ v.ok (below s'.nb) = true ∧
      (∃ fn, P.funcs[f]? = some fn ∧ fn.body.isSome) ∧
      (Good s' → ∀ (E : Env) (w : World), MRel E s w → Calls P f (args.map (LV.den E)).toArray w fun e w' => ∃ E', e = .returned (v.den E') ∧ MRel E' s' w' ∧ Ext w E s w' E' s')

theorem below_mono {n m : Nat} (h : n ≤ m) : ∀ i, below n i = true → below m i = true := fun i hi => by
  simp only [below, decide_eq_true_eq] at hi ⊢
  omega

theorem body_same {n : Nat} {f : FuncId} {args : List LV} {s s2 : St} {out : Out} (h : exec P S z n (.body f args) s = some (out, s2)) : s2.sz = s.sz ∧ s2.tm = s.tm := by
  cases n with
  | zero => simp [exec] at h
  | succ n =>
    simp only [exec, step1, bodyStep] at h
    split at h
    · split at h
      · split at h
        · rw [argsTK_eq] at h
          unfold endStep at h
          split at h
          · split at h
            · cases h; exact ⟨rfl, rfl⟩
            · cases h
          · split at h
            · cases h; exact ⟨rfl, rfl⟩
            · cases h
          · cases h
        · cases h
      · cases h
    · cases h

/-- One operation of the text's order that is not walked into. -/
theorem app_step (hB : BinOK P) (hS : AllOK P S) {all : List Oper} {s : St} {o : Oper} {gd pd : Option Bool} {d : Dl} {cs : List (Bool × Bool)} {dec : List (Option Bool)} {β : Type} {k : St → Option β} {r : β}
    (hd : stepD P S z all (getT s.tm) (getM s.mem) s.nb gd pd o = some (d, cs)) (h : appK z s o.dst d dec cs k = some r) (hsz : s.sz ≤ 60000) (hs : StOK s) :
    ∃ s1, k s1 = some r ∧ s1.sz = s.sz ∧ s.nb ≤ s1.nb ∧ StOK s1 ∧ (Good s1 → Good s) ∧
      (Good s1 → ∀ (ops : Array Oper) (i : Nat), ops.toList = all → ops[i]? = some o → ∀ (E : Env) (a : Act) (w : World), R E s a w → ∀ (K : Act → World → Prop) (Q : Exit → Act → World → Prop),
        (∀ E' a' w', R E' s1 a' w' → Ext w E s w' E' s1 → K a' w') → wpOp P ops Q i K a w) := by
  obtain ⟨s1, h1, h2, h3, h4, h5, h6, h7, _⟩ := appK_spec (a := { tmps := Array.replicate s.sz undef, defers := [] }) (by simp) hsz h
  have hok := stepD_ok (fun t => hs.okT t) hs.okM' hd
  have hs1 : StOK s1 := hs.app hok h5 h6 h7.1
  refine ⟨s1, h1, h4, by omega, hs1, fun hg => (h2 hg).2.2, fun hg ops i hall hi E a w hr K Q hk => ?_⟩
  subst hall
  obtain ⟨c1, c2, _⟩ := h2 hg
  refine stepD_wp hB hS hi hr.tm (fun t => hs.okT t) hr.m.rel hs.okM' (fun j h1 _ => by simp [below, h1]) hd c1 c2 fun E' w' hp => ?_
  have hag : ∀ i, below s.nb i = true → E' i = E i := fun j hj => hp.agree j (.inl (by simpa [below] using hj))
  obtain ⟨tm1, sz1, mem1, nb1, dec1, cs1⟩ := s1
  simp only at h4 h5 h6
  subst h5 h6
  obtain ⟨m1, m2⟩ := MRel.post (tm := tm1) (sz := sz1) (dec := dec1) (cs := cs1) hr.m hok hp
  refine hk E' _ w' ⟨?_, by rw [h4]; exact hsz, fun t => ?_, ?_, hs1.okT, m1⟩ m2
  · rw [h4, ← hr.size]
    cases hd : o.dst <;> simp [Act.put]
  · have ht : ∀ t : Nat, a.tmps.getD t undef = (getT s.tm t).den E' := fun t => by rw [hr.tm t, LV.den_congr hag (hs.okT t)]
    have h8 : getT tm1 t = updτ (getT s.tm) o.dst d.val t := congrFun h7.1 t
    show _ = (getT tm1 t).den E'
    rw [h8]
    unfold updτ
    cases hd : o.dst with
    | none => exact ht t
    | some e =>
      simp only [Act.put]
      rw [getD_set a.tmps e t _ (by rw [hr.size]; exact h7.2 e hd)]
      by_cases hte : t = e
      · simp [hte]
      · rw [if_neg hte, if_neg hte]; exact ht t
  · cases hd : o.dst <;> exact hr.defers

theorem SO_succ (hB : BinOK P) (hS : AllOK P S) (hNG : ∀ (f : FuncId) (fn : Func), P.funcs[f]? = some fn → fn.name ≠ "runtime.NumGoroutine") {n : Nat} (ihO : SO P S z n) (ihB : SB P S z n) : SO P S z (n + 1) := by
  intro all l s out s' h hsz hs
  simp only [exec, step1] at h
  cases l with
  | nil =>
    simp only [opsStep] at h
    cases h
    exact ⟨rfl, id, hs, rfl, Nat.le_refl _, fun _ ops k _ _ E a w hr Q hQ => by simpa [wpOps] using hQ E a w hr (.refl _ _ _)⟩
  | cons o rest =>
    simp only [opsStep] at h
    generalize hdec : decs z o s.dec = q at h
    obtain ⟨gd, pd, dec⟩ := q
    simp only at h
    have hnext : ∀ (ops : Array Oper) (k : Nat), ops.toList = all → all.drop k = o :: rest → ops[k]? = some o ∧ all.drop (k + 1) = rest := by
      intro ops k hall hdrop
      constructor
      · have : (all.drop k)[0]? = some o := by rw [hdrop]; rfl
        rw [List.getElem?_drop] at this
        rw [← hall] at this
        simpa using this
      · have := congrArg List.tail hdrop
        simpa [List.tail_drop] using this
    -- the step that the evaluator takes by itself
    have plain : ∀ (d : Dl) (cs : List (Bool × Bool)), stepD P S z all (getT s.tm) (getM s.mem) s.nb gd pd o = some (d, cs) → (appK z s o.dst d dec cs fun s' => exec P S z n (.ops all rest) s') = some (out, s') →
        out = .ex .normal ∧ (Good s' → Good s) ∧ StOK s' ∧ s'.sz = s.sz ∧ s.nb ≤ s'.nb ∧
          (Good s' → ∀ (ops : Array Oper) (k : Nat), ops.toList = all → all.drop k = o :: rest → ∀ (E : Env) (a : Act) (w : World), R E s a w → ∀ Q : Exit → Act → World → Prop,
            (∀ E' a' w', R E' s' a' w' → Ext w E s w' E' s' → Q .normal a' w') → wpOps P ops Q (List.range' k (o :: rest).length) a w) := by
      intro d cs hd hk
      obtain ⟨s1, h1, h2, h3, h4, h5, h6⟩ := app_step (z := z) hB hS hd hk hsz hs
      obtain ⟨e1, e2, e3, e4, e5, e6⟩ := ihO all rest s1 out s' h1 (by omega) h4
      refine ⟨e1, fun hg => h5 (e2 hg), e3, e4.trans h2, Nat.le_trans h3 e5, fun hg ops k hall hdrop E a w hr Q hQ => ?_⟩
      rw [List.length_cons, List.range'_succ, wpOps_cons]
      obtain ⟨hk', hdrop'⟩ := hnext ops k hall hdrop
      refine h6 (e2 hg) ops k hall hk' E a w hr _ Q fun E' a' w' hr' hx => ?_
      exact e6 hg ops (k + 1) hall hdrop' E' a' w' hr' Q fun E'' a'' w'' hr'' hx' => hQ E'' a'' w'' hr'' (hx.trans hx')
    split at h
    · rename_i cs hw
      exact plain skipD cs (by unfold stepD; rw [hw]) h
    · rename_i cs hw
      unfold doStep at h
      split at h
      · rename_i f args hinl
        -- a call that is walked into
        have hc : ∃ c, o.op = .call c ∧ callee (getT s.tm) c = some (f, args) := by
          unfold inlined at hinl
          split at hinl
          · rename_i c ho
            refine ⟨c, ho, ?_⟩
            split at hinl
            · rename_i f' args' hcal
              split at hinl
              · cases hinl
              · cases hinl; exact hcal
            · cases hinl
          · cases hinl
        obtain ⟨c, ho, hcal⟩ := hc
        obtain ⟨c1, h1, h2⟩ := csK_spec h
        unfold inlStep at h1
        split at h1
        · rename_i v s2 hbody
          rw [forceV_eq] at h1
          have hargs : ∀ u ∈ args, u.ok (below s.nb) = true := callee_ok (fun t => hs.okT t) hcal
          obtain ⟨hsz2, htm2⟩ := body_same hbody
          simp only at hsz2 htm2
          obtain ⟨tm, h3, ⟨htm, hdst⟩, _⟩ := put_tm (a := { tmps := Array.replicate s2.sz undef, defers := [] }) (by simp) (by omega) h1
          obtain ⟨m', h4, hum, hsub⟩ := backM_spec h3
          obtain ⟨v', b1, b2, b3, b4, b5, b6, ⟨fn, b7, b8⟩, b9⟩ := ihB f args _ _ s2 hbody hs.okM hs.uq hargs
          cases b1
          simp only at b3
          have hs3 : StOK ⟨tm, s2.sz, m', s2.nb, s2.dec, s2.cs⟩ := by
            refine ⟨fun t => ?_, fun i b hb => b4 i b (hsub i b hb), hum b5⟩
            show (getT tm t).ok (below s2.nb) = true
            rw [htm]
            unfold updτ
            rw [htm2]
            cases hd : o.dst with
            | none => exact LV.ok_mono (below_mono b3) (hs.okT t)
            | some e =>
              by_cases hte : t = e
              · simp only [hte, if_true]; exact b6
              · simp only [hte, if_false]; exact LV.ok_mono (below_mono b3) (hs.okT t)
          obtain ⟨e1, e2, e3, e4, e5, e6⟩ := ihO all rest _ out s' h4 (by show s2.sz ≤ 60000; omega) hs3
          simp only at e4 e5
          refine ⟨e1, fun hg => ?_, e3, e4.trans hsz2, Nat.le_trans b3 e5, fun hg ops k hall hdrop E a w hr Q hQ => ?_⟩
          · exact (h2 (b2 (e2 hg))).2
          · rw [List.length_cons, List.range'_succ, wpOps_cons]
            obtain ⟨hk', hdrop'⟩ := hnext ops k hall hdrop
            have hg2 : Good s2 := e2 hg
            have hcs := (h2 (b2 hg2)).1
            unfold wpOp
            simp only [hk']
            subst hall
            rw [wants_spec (a := a) (E := E) hr.tm hw hcs]
            simp only [if_true]
            refine .inl (CallOK.wp (R := fun v'' w' => ∃ E', v'' = v.den E' ∧ MRel E' s2 w' ∧ Ext w E ⟨s.tm, s.sz, s.mem, s.nb, dec, c1⟩ w' E' s2) ho (eval_tmp hr.tm) hcal (.inl ⟨fn, b7, hNG f fn b7, b8, ?_⟩) ?_)
            · refine (b9 hg2 E w ⟨hr.m.rel, hr.m.okM, hr.m.uq⟩).mono fun e w' he => ?_
              obtain ⟨E', h5, h6, h7⟩ := he
              exact ⟨_, h5, E', rfl, h6, h7⟩
            · rintro v'' w' ⟨E', rfl, h6, h7⟩
              have hag : ∀ i, below s.nb i = true → E' i = E i := fun j hj => h7.agree j (by simpa [below] using hj)
              have ht : ∀ t : Nat, a.tmps.getD t undef = (getT s.tm t).den E' := fun t => by rw [hr.tm t, LV.den_congr hag (hs.okT t)]
              have hr3 : R E' ⟨tm, s2.sz, m', s2.nb, s2.dec, s2.cs⟩ (a.put o.dst (v.den E')) w' := by
                refine ⟨?_, by show s2.sz ≤ 60000; omega, fun t => ?_, ?_, hs3.okT, ⟨h6.rel.sub hsub, hs3.okM, hs3.uq⟩⟩
                · show _ = s2.sz
                  rw [hsz2, ← hr.size]
                  cases hd : o.dst <;> simp [Act.put]
                · show _ = (getT tm t).den E'
                  rw [htm]
                  unfold updτ
                  rw [htm2]
                  cases hd : o.dst with
                  | none => exact ht t
                  | some e =>
                    simp only [Act.put]
                    rw [getD_set a.tmps e t _ (by rw [hr.size, ← hsz2]; exact hdst e hd)]
                    by_cases hte : t = e
                    · simp [hte]
                    · rw [if_neg hte, if_neg hte]; exact ht t
                · cases hd : o.dst <;> exact hr.defers
              refine e6 hg ops (k + 1) rfl hdrop' E' _ w' hr3 Q fun E'' a'' w'' hr'' hx' => ?_
              refine hQ E'' a'' w'' hr'' (Ext.trans (s1 := ⟨tm, s2.sz, m', s2.nb, s2.dec, s2.cs⟩) ⟨h7.nb, h7.agree, h7.os, h7.tape, h7.output, h7.size, h7.frame, fun i hi => h7.src i ?_⟩ hx')
              obtain ⟨b, hb⟩ := Option.isSome_iff_exists.1 hi
              simp [hsub i b hb]
        · cases h1
      · rename_i hinl
        split at h
        · rename_i d hd
          exact plain d cs (by unfold stepD; rw [hw]; simp only [hd]) h
        · cases h
    · cases h

theorem SB_succ {n : Nat} (ihC : SC P S z n) : SB P S z (n + 1) := by
  intro f args s out s' h hokM huq hargs
  simp only [exec, step1, bodyStep] at h
  split at h
  · rename_i fn hf
    split at h
    · rename_i c hc
      split at h
      · rename_i hl1 hl2
        rw [nble, lenL_eq] at hl1
        rw [nble] at hl2
        have hl1' : args.length ≤ fn.ntmps := by simpa using hl1
        have hl2' : fn.ntmps ≤ 60000 := by simpa using hl2
        rw [argsTK_eq] at h
        have hget : ∀ j, getT (argsT .nil 0 args) j = args.getD j undefL := by
          intro j
          rw [getT_argsT args .nil 0 j (by omega)]
          by_cases hj : j < args.length
          · rw [if_pos (by omega)]; simp
          · rw [if_neg (by omega), getT_nil]
            simp [List.getD, List.getElem?_eq_none (Nat.le_of_not_lt hj)]
        have hs0 : StOK ⟨argsT .nil 0 args, fn.ntmps, s.mem, s.nb, s.dec, s.cs⟩ := by
          refine ⟨fun t => ?_, hokM, huq⟩
          show (getT (argsT .nil 0 args) t).ok (below s.nb) = true
          rw [hget]
          by_cases ht : t < args.length
          · simp only [List.getD, List.getElem?_eq_getElem ht, Option.getD_some]
            exact hargs _ (List.getElem_mem ht)
          · simp only [List.getD, List.getElem?_eq_none (Nat.le_of_not_lt ht), Option.getD_none]
            rfl
        -- what is common to both ways of ending
        have key : ∀ (e : Ex) (s1 : St) (v : LV), (e = .normal ∨ e = .ret) → exec P S z n (.code c) ⟨argsT .nil 0 args, fn.ntmps, s.mem, s.nb, s.dec, s.cs⟩ = some (.ex e, s1) →
            resultsD P fn.results.toList (getT s1.tm) s1.mem = some v → out = .val v → s' = ⟨s.tm, s.sz, s1.mem, s1.nb, s1.dec, s1.cs⟩ →
            ∃ v, out = .val v ∧ (Good s' → Good s) ∧ s.nb ≤ s'.nb ∧ (∀ i b, getM s'.mem i = some b → i < s'.nb ∧ okL (below s'.nb) b.cells = true) ∧ uniq s'.mem ∧ v.ok (below s'.nb) = true ∧
              (∃ fn, P.funcs[f]? = some fn ∧ fn.body.isSome) ∧
              (Good s' → ∀ (E : Env) (w : World), MRel E s w → Calls P f (args.map (LV.den E)).toArray w fun e w' => ∃ E', e = .returned (v.den E') ∧ MRel E' s' w' ∧ Ext w E s w' E' s') := by
          intro e s1 v he hex hres hout hs'
          obtain ⟨e', q1, q2, q3, q4, q5, q6⟩ := ihC c _ _ s1 hex hl2' hs0
          cases q1
          subst hs'
          simp only at q5
          refine ⟨v, hout, fun hg => q2 hg, q5, q3.okM, q3.uq, resultsD_ok (fun t => q3.okT t) q3.okM' hres, ⟨fn, hf, by simp [hc]⟩, fun hg E w hm => ?_⟩
          refine calls_of_wp hf hc (q6 hg E _ w ⟨?_, hl2', fun t => ?_, rfl, hs0.okT, ⟨hm.rel, hm.okM, hm.uq⟩⟩ _ fun E' a' w' hr' hx' => ?_)
          · simp; omega
          · show _ = (getT (argsT .nil 0 args) t).den E
            rw [hget]
            simp only [Array.getD_eq_getD_getElem?, Array.getElem?_append, List.size_toArray, List.length_map]
            by_cases ht : t < args.length
            · rw [if_pos ht]
              simp [List.getD, List.getElem?_eq_getElem ht]
            · rw [if_neg ht]
              simp only [List.getD, List.getElem?_eq_none (Nat.le_of_not_lt ht), Option.getD_none]
              by_cases ht2 : t - args.length < fn.ntmps - args.length
              · simp [ht2]; rfl
              · simp [ht2]; rfl
          · have hpost : bodyPost P fn (fun e w' => ∃ E', e = .returned (v.den E') ∧ MRel E' ⟨s.tm, s.sz, s1.mem, s1.nb, s1.dec, s1.cs⟩ w' ∧ Ext w E s w' E' ⟨s.tm, s.sz, s1.mem, s1.nb, s1.dec, s1.cs⟩) .ret a' w' :=
              ⟨hr'.defers, v.den E', resultsD_spec hr'.m.rel hr'.tm hres, E', rfl, ⟨hr'.m.rel, hr'.m.okM, hr'.m.uq⟩, ⟨hx'.nb, hx'.agree, hx'.os, hx'.tape, hx'.output, hx'.size, hx'.frame, hx'.src⟩⟩
            rcases he with rfl | rfl
            · exact hpost
            · exact hpost
        unfold endStep at h
        split at h
        · rename_i s1 hex
          split at h
          · rename_i v hres
            cases h
            exact key .normal s1 v (.inl rfl) hex hres rfl rfl
          · cases h
        · rename_i s1 hex
          split at h
          · rename_i v hres
            cases h
            exact key .ret s1 v (.inr rfl) hex hres rfl rfl
          · cases h
        · cases h
      · cases h
    · cases h
  · cases h

theorem SC_succ (hB : BinOK P) (hS : AllOK P S) (hmix : P.follows .mixedOrders = true) {n : Nat} (ihC : SC P S z n) (ihO : SO P S z n) (ihL : SL P S z (n + 1)) : SC P S z (n + 1) := by
  intro c s out s' h hsz hs
  have h0 := h
  simp only [exec, step1] at h
  cases c <;> simp only [codeStep, reduceCtorEq] at h
  case skip =>
    cases h
    exact ⟨.normal, rfl, id, hs, rfl, Nat.le_refl _, fun _ E a w hr Q hQ => wp_skip (hQ E a w hr (.refl _ _ _))⟩
  case region id ops draw =>
    cases draw with
    | false =>
      simp only at h
      obtain ⟨e1, e2, e3, e4, e5, e6⟩ := ihO _ _ s out s' h hsz hs
      refine ⟨.normal, e1, e2, e3, e4, e5, fun hg E a w hr Q hQ => wp_region ?_⟩
      have := e6 hg ops 0 rfl rfl E a w hr Q hQ
      rw [List.range_eq_range']
      simpa using this
    | true =>
      simp only at h
      unfold drawStep at h
      split at h
      · rename_i s1 hd
        cases h
        obtain ⟨e2, e3, e4, e5, e6⟩ := drawRun_wp hB hS hmix hd hsz hs
        exact ⟨.normal, rfl, e2, e3, e4, e5, fun hg E a w hr Q hQ => e6 hg id E a w hr Q hQ⟩
      · cases h
  case seq x y =>
    cases hx : exec P S z n (.code x) s with
    | none => rw [hx] at h; simp [seqStep] at h
    | some q =>
      obtain ⟨o1, s1⟩ := q
      rw [hx] at h
      obtain ⟨e, e1, e2, e3, e4, e5, e6⟩ := ihC x s o1 s1 hx hsz hs
      subst e1
      have other : e ≠ .normal → seqStep (exec P S z n) y (some (Out.ex e, s1)) = some (Out.ex e, s1) := by
        intro hne
        cases e <;> first | exact absurd rfl hne | rfl
      by_cases hne : e = .normal
      · subst hne
        simp only [seqStep] at h
        obtain ⟨e', f1, f2, f3, f4, f5, f6⟩ := ihC y s1 out s' h (by omega) e3
        refine ⟨e', f1, fun hg => e2 (f2 hg), f3, f4.trans e4, Nat.le_trans e5 f5, fun hg E a w hr Q hQ => wp_seq ?_⟩
        refine e6 (f2 hg) E a w hr _ fun E' a' w' hr' hx' => ?_
        exact f6 hg E' a' w' hr' Q fun E'' a'' w'' hr'' hx'' => hQ E'' a'' w'' hr'' (hx'.trans hx'')
      · rw [other hne] at h
        cases h
        refine ⟨e, rfl, e2, e3, e4, e5, fun hg E a w hr Q hQ => wp_seq ?_⟩
        refine e6 hg E a w hr _ fun E' a' w' hr' hx' => ?_
        have := hQ E' a' w' hr' hx'
        cases e <;> first | exact absurd rfl hne | exact this
  case cond c x y =>
    unfold condStep at h
    split at h
    · rename_i t ht
      generalize hq : takeD s.dec = q at h
      obtain ⟨d, dec⟩ := q
      simp only at h
      split at h
      · rename_i cs hb
        obtain ⟨c1, h1, h2⟩ := csK_spec h
        have hs1 : StOK ⟨s.tm, s.sz, s.mem, s.nb, dec, c1⟩ := ⟨hs.okT, hs.okM, hs.uq⟩
        obtain ⟨e, e1, e2, e3, e4, e5, e6⟩ := ihC x _ out s' h1 hsz hs1
        refine ⟨e, e1, fun hg => (h2 (e2 hg)).2, e3, e4, e5, fun hg E a w hr Q hQ => ?_⟩
        have htt := isTrue_spec hb (h2 (e2 hg)).1
        subst htt
        refine wp_cond_true (by rw [ev_spec (eval_tmp hr.tm) ht]; rfl) ?_
        exact e6 hg E a w ⟨hr.size, hr.le, hr.tm, hr.defers, hr.okT, ⟨hr.m.rel, hr.m.okM, hr.m.uq⟩⟩ Q fun E' a' w' hr' hx' => hQ E' a' w' hr' ⟨hx'.nb, hx'.agree, hx'.os, hx'.tape, hx'.output, hx'.size, hx'.frame, hx'.src⟩
      · rename_i cs hb
        obtain ⟨c1, h1, h2⟩ := csK_spec h
        have hs1 : StOK ⟨s.tm, s.sz, s.mem, s.nb, dec, c1⟩ := ⟨hs.okT, hs.okM, hs.uq⟩
        obtain ⟨e, e1, e2, e3, e4, e5, e6⟩ := ihC y _ out s' h1 hsz hs1
        refine ⟨e, e1, fun hg => (h2 (e2 hg)).2, e3, e4, e5, fun hg E a w hr Q hQ => ?_⟩
        have htt := isTrue_spec hb (h2 (e2 hg)).1
        subst htt
        refine wp_cond_false (by rw [ev_spec (eval_tmp hr.tm) ht]; rfl) ?_
        exact e6 hg E a w ⟨hr.size, hr.le, hr.tm, hr.defers, hr.okT, ⟨hr.m.rel, hr.m.okM, hr.m.uq⟩⟩ Q fun E' a' w' hr' hx' => hQ E' a' w' hr' ⟨hx'.nb, hx'.agree, hx'.os, hx'.tape, hx'.output, hx'.size, hx'.frame, hx'.src⟩
      · cases h
    · cases h
  case block id x =>
    cases hx : exec P S z n (.code x) s with
    | none => rw [hx] at h; simp [blockStep] at h
    | some q =>
      obtain ⟨o1, s1⟩ := q
      rw [hx] at h
      obtain ⟨e, e1, e2, e3, e4, e5, e6⟩ := ihC x s o1 s1 hx hsz hs
      subst e1
      cases e with
      | normal =>
        simp only [blockStep] at h
        cases h
        exact ⟨.normal, rfl, e2, e3, e4, e5, fun hg E a w hr Q hQ => wp_block (e6 hg E a w hr _ fun E' a' w' hr' hx' => hQ E' a' w' hr' hx')⟩
      | ret =>
        simp only [blockStep] at h
        cases h
        exact ⟨.ret, rfl, e2, e3, e4, e5, fun hg E a w hr Q hQ => wp_block (e6 hg E a w hr _ fun E' a' w' hr' hx' => hQ E' a' w' hr' hx')⟩
      | exit i =>
        simp only [blockStep, nbeq] at h
        by_cases hid : i = id
        · simp only [hid, decide_true] at h
          cases h
          refine ⟨.normal, rfl, e2, e3, e4, e5, fun hg E a w hr Q hQ => wp_block (e6 hg E a w hr _ fun E' a' w' hr' hx' => ?_)⟩
          simp only [Ex.to, Exit.inBlock, hid, if_true]
          exact hQ E' a' w' hr' hx'
        · simp only [hid, decide_false] at h
          cases h
          refine ⟨.exit i, rfl, e2, e3, e4, e5, fun hg E a w hr Q hQ => wp_block (e6 hg E a w hr _ fun E' a' w' hr' hx' => ?_)⟩
          simp only [Ex.to, Exit.inBlock, hid, if_false]
          exact hQ E' a' w' hr' hx'
  case loop x =>
    obtain ⟨e, m, e1, e2, e3, e4, e5, e6⟩ := ihL x s out s' h0 hsz hs
    exact ⟨e, e1, e2, e3, e4, e5, fun hg E a w hr Q hQ => wp_loop_rounds m (e6 hg E a w hr Q hQ)⟩
  case exit id =>
    cases h
    exact ⟨.exit id, rfl, fun hg => hg, hs, rfl, Nat.le_refl _, fun _ E a w hr Q hQ => wp_exit (hQ E a w hr (.refl _ _ _))⟩
  case ret =>
    cases h
    exact ⟨.ret, rfl, id, hs, rfl, Nat.le_refl _, fun _ E a w hr Q hQ => wp_ret (hQ E a w hr (.refl _ _ _))⟩

theorem SL_succ {n : Nat} (ihC : SC P S z n) (ihL : SL P S z n) : SL P S z (n + 1) := by
  intro x s out s' h hsz hs
  simp only [exec, step1, codeStep] at h
  cases hx : exec P S z n (.code x) s with
  | none => rw [hx] at h; simp [seqStep] at h
  | some q =>
    obtain ⟨o1, s1⟩ := q
    rw [hx] at h
    obtain ⟨e, e1, e2, e3, e4, e5, e6⟩ := ihC x s o1 s1 hx hsz hs
    subst e1
    by_cases hne : e = .normal
    · subst hne
      simp only [seqStep] at h
      obtain ⟨e', m, f1, f2, f3, f4, f5, f6⟩ := ihL x s1 out s' h (by omega) e3
      refine ⟨e', m + 1, f1, fun hg => e2 (f2 hg), f3, f4.trans e4, Nat.le_trans e5 f5, fun hg E a w hr Q hQ => ?_⟩
      rw [rounds_succ]
      refine e6 (f2 hg) E a w hr _ fun E' a' w' hr' hx' => ?_
      exact f6 hg E' a' w' hr' Q fun E'' a'' w'' hr'' hx'' => hQ E'' a'' w'' hr'' (hx'.trans hx'')
    · have other : seqStep (exec P S z n) (.loop x) (some (Out.ex e, s1)) = some (Out.ex e, s1) := by
        cases e <;> first | exact absurd rfl hne | rfl
      rw [other] at h
      cases h
      refine ⟨e, 1, rfl, e2, e3, e4, e5, fun hg E a w hr Q hQ => ?_⟩
      rw [rounds_succ]
      refine e6 hg E a w hr _ fun E' a' w' hr' hx' => ?_
      have := hQ E' a' w' hr' hx'
      cases e <;> first | exact absurd rfl hne | exact this

/-- The evaluator is sound. -/
theorem exec_sound (hB : BinOK P) (hS : AllOK P S) (hmix : P.follows .mixedOrders = true) (hNG : ∀ (f : FuncId) (fn : Func), P.funcs[f]? = some fn → fn.name ≠ "runtime.NumGoroutine") :
    ∀ n, SC P S z n ∧ SL P S z n ∧ SO P S z n ∧ SB P S z n
  | 0 => ⟨fun c s out s' h => by simp [exec] at h, fun c s out s' h => by simp [exec] at h, fun all l s out s' h => by simp [exec] at h, fun f args s out s' h => by simp [exec] at h⟩
  | n + 1 => by
    obtain ⟨h1, h2, h3, h4⟩ := exec_sound hB hS hmix hNG n
    have hL := SL_succ h1 h2
    exact ⟨SC_succ hB hS hmix h1 h3 hL, hL, SO_succ hB hS hNG h3 h4, SB_succ h1⟩

end
end Go.Lr

/- The local evaluator: the comparing of structs and arrays. -/
namespace Go.Lr
open Go.RowKit

section
variable {P : Program} {E : Env}

theorem forIn_all {α : Type} (f : α → Option Bool × Unit → Sem (ForInStep (Option Bool × Unit))) (b : α → Bool) (w : World) : ∀ (l : List α),
    (∀ x ∈ l, (f x (none, ())).run P w = .ok (if b x then .yield (none, ()) else .done (some false, ())) w) →
    (forIn l (none, ()) f).run P w = .ok (if l.all b then (none, ()) else (some false, ())) w
  | [], _ => by simp
  | x :: l, h => by
    simp only [List.forIn_cons, Sem.run_bind, h x (by simp), Result.andThen_ok]
    cases hb : b x with
    | false => simp [hb]
    | true =>
      simp only [if_true, List.all_cons, hb, Bool.true_and]
      exact forIn_all f b w l fun y hy => h y (by simp [hy])

def eqF (P : Program) (d : Nat) (xs ys : List At) (f : Field) : Bool :=
  match partV P f.type xs f.offset, partV P f.type ys f.offset with
  | some a, some b => (eqV P d f.type a b).getD false
  | _, _ => false

theorem eqFields_spec {d : Nat} {xs ys : List At} : ∀ {fs : List Field} {r : Bool}, eqFields P (eqV P d) fs xs ys = some r →
    r = fs.all (eqF P d xs ys) ∧ ∀ f ∈ fs, f.name ≠ "_" ∧ ∃ a b, partV P f.type xs f.offset = some a ∧ partV P f.type ys f.offset = some b ∧ eqV P d f.type a b = some (eqF P d xs ys f)
  | [], r, h => by simp only [eqFields] at h; cases h; simp
  | f :: fs, r, h => by
    simp only [eqFields] at h
    split at h
    · cases h
    · rename_i hn
      split at h
      · rename_i a b ha hb
        split at h
        · rename_i r1 rs h1 h2
          cases h
          obtain ⟨g1, g2⟩ := eqFields_spec h2
          have he : eqF P d xs ys f = r1 := by simp [eqF, ha, hb, h1]
          refine ⟨by simp [he, g1], fun f' hf' => ?_⟩
          rcases List.mem_cons.1 hf' with rfl | hf'
          · exact ⟨by simpa using hn, a, b, ha, hb, by rw [he]; exact h1⟩
          · exact g2 f' hf'
        · cases h
      · cases h

def eqE (P : Program) (d : Nat) (e : TypeId) (s : Nat) (xs ys : List At) (i : Nat) : Bool :=
  match partV P e xs (i * s), partV P e ys (i * s) with
  | some a, some b => (eqV P d e a b).getD false
  | _, _ => false

theorem eqElems_spec {d s : Nat} {e : TypeId} {xs ys : List At} : ∀ {n i : Nat} {r : Bool}, eqElems P (eqV P d) e s n i xs ys = some r →
    r = (List.range' i n).all (eqE P d e s xs ys) ∧ ∀ j ∈ List.range' i n, ∃ a b, partV P e xs (j * s) = some a ∧ partV P e ys (j * s) = some b ∧ eqV P d e a b = some (eqE P d e s xs ys j)
  | 0, i, r, h => by simp only [eqElems] at h; cases h; simp
  | n + 1, i, r, h => by
    simp only [eqElems] at h
    split at h
    · rename_i a b ha hb
      split at h
      · rename_i r1 rs h1 h2
        cases h
        obtain ⟨g1, g2⟩ := eqElems_spec h2
        have he : eqE P d e s xs ys i = r1 := by simp [eqE, ha, hb, h1]
        rw [List.range'_succ]
        refine ⟨by simp [he, g1], fun j hj => ?_⟩
        rcases List.mem_cons.1 hj with rfl | hj
        · exact ⟨a, b, ha, hb, by rw [he]; exact h1⟩
        · exact g2 j hj
      · cases h
    · cases h

theorem eqV_spec (w : World) : ∀ {d : Nat} {t : TypeId} {x y : V1} {b : Bool}, eqV P d t x y = some b → (Op.equalIn d t (x.den E) (y.den E)).run P w = .ok b w
  | 0, t, x, y, b, h => by simp [eqV] at h
  | d + 1, t, x, y, b, h => by
    unfold eqV at h
    unfold Op.equalIn
    split at h
    · rename_i p q hu
      cases h
      simp [run_underlying hu, V1.den, At.den]
    · rename_i k' k p k'' q hu
      split at h
      · rename_i hk
        cases h
        have := kindEq_iff hk
        subst this
        simp [run_underlying hu, V1.den, At.den]
      · cases h
    · rename_i fs xs ys hu
      split at h
      · cases h
      · rename_i hst
        obtain ⟨g1, g2⟩ := eqFields_spec h
        simp only [Sem.run_bind, run_underlying hu, Result.andThen_ok, V1.den]
        have hprog : (program : Sem Program).run P w = .ok P w := rfl
        simp only [hprog, Result.andThen_ok, hst, Bool.false_eq_true, if_false, Sem.run_bind]
        rw [← Array.forIn_toList, forIn_all _ (eqF P d xs ys) w fs.toList (fun f hf => by
          obtain ⟨hn, a, b', ha, hb, hab⟩ := g2 f hf
          have h1 := partV_spec (E := E) ha w
          have h2 := partV_spec (E := E) hb w
          have h3 := eqV_spec w hab
          simp only [ne_eq, hn, not_false_eq_true, if_true, Sem.run_bind, h1, Result.andThen_ok, h2, h3]
          cases eqF P d xs ys f <;> simp)]
        rw [g1]
        cases fs.toList.all (eqF P d xs ys) <;> simp
    · rename_i n e xs ys hu
      split at h
      · rename_i s hs
        obtain ⟨g1, g2⟩ := eqElems_spec h
        simp only [Sem.run_bind, run_underlying hu, Result.andThen_ok, V1.den, sizeT_spec hs]
        rw [Std.Legacy.Range.forIn_eq_forIn_range', forIn_all _ (eqE P d e s xs ys) w _ (fun j hj => by
          obtain ⟨a, b', ha, hb, hab⟩ := g2 j (by simpa [Std.Legacy.Range.size] using hj)
          have h1 := partV_spec (E := E) ha w
          have h2 := partV_spec (E := E) hb w
          have h3 := eqV_spec w hab
          simp only [Sem.run_bind, h1, Result.andThen_ok, h2, h3]
          cases eqE P d e s xs ys j <;> simp)]
        rw [g1]
        simp only [Std.Legacy.Range.size, Nat.sub_zero, Nat.add_one_sub_one, Nat.div_one, Result.andThen_ok]
        cases (List.range' 0 n).all (eqE P d e s xs ys) <;> simp
      · cases h
    · cases h

theorem intOf?_spec {x : LV} {k : IntKind} {n : Int} (h : intOf? x = some (k, n)) : x = .v (.one (.int k n)) := by
  unfold intOf? at h
  split at h
  · cases h; rfl
  · cases h

/-- Shapes that are compared. -/
theorem eqV_shape {d : Nat} {t : TypeId} {x y : V1} {b : Bool} (h : eqV P d t x y = some b) :
    (∃ p q, x = .one (.bool p) ∧ y = .one (.bool q)) ∨ (∃ k p l q, x = .one (.int k p) ∧ y = .one (.int l q)) ∨ (∃ p q, x = .agg p ∧ y = .agg q) := by
  cases d with
  | zero => simp [eqV] at h
  | succ d =>
    unfold eqV at h
    split at h
    · exact .inl ⟨_, _, rfl, rfl⟩
    · exact .inr (.inl ⟨_, _, _, _, rfl, rfl⟩)
    · exact .inr (.inr ⟨_, _, rfl, rfl⟩)
    · exact .inr (.inr ⟨_, _, rfl, rfl⟩)
    · cases h

theorem binOK (P : Program) : BinOK P := by
  intro E w a op t x y xo yo kn d hx hy h
  unfold binD at h
  split at h
  · rename_i k p hp
    have hxe := intOf?_spec hp
    split at h
    · rename_i l q hq
      have hye := intOf?_spec hq
      subst hxe hye
      have hpur := binII_spec (P := P) (E := E) (w := w) t h
      refine ⟨hpur.wr, hpur.nw, fun hc => ?_⟩
      have := hpur.run hc
      simp only [LV.den, V1.den, At.den, Sem.run_bind]
      have hg : (eqGuard op t xo yo (.int k p) (.int l q)).run P w = .ok () w := by
        unfold eqGuard
        cases op <;> simp
      rw [hg]
      exact this
    · cases h
  · rename_i hni
    split at h
    · rename_i u hu
      split at h
      · rename_i v hv
        have hxe : x = .v u := by
          unfold v1Of? at hu
          split at hu
          · cases hu; rfl
          · cases hu
        have hye : y = .v v := by
          unfold v1Of? at hv
          split at hv
          · cases hv; rfl
          · cases hv
        subst hxe hye
        have key : ∀ (r : Bool), P.eqGuardType P.depth t = false → eqV P 10000 t u v = some r → (op = .eql ∨ op = .neq) →
            (eqGuard op t xo yo (u.den E) (v.den E)).run P w = .ok () w ∧ (Op.equal t (u.den E) (v.den E)).run P w = .ok r w := by
          intro r hg hr hop
          refine ⟨?_, eqV_spec w hr⟩
          unfold eqGuard
          rcases eqV_shape hr with ⟨p, q, rfl, rfl⟩ | ⟨k, p, l, q, rfl, rfl⟩ | ⟨p, q, rfl, rfl⟩
          · rcases hop with rfl | rfl <;> simp [V1.den, At.den]
          · rcases hop with rfl | rfl <;> simp [V1.den, At.den]
          · have hprog : (program : Sem Program).run P w = .ok P w := rfl
            rcases hop with rfl | rfl <;> simp [V1.den, hprog, hg]
        unfold binEq at h
        split at h
        · split at h
          · rename_i r hg hr
            refine pur_val1 h ?_
            obtain ⟨h1, h2⟩ := key r hg hr (.inl rfl)
            simp only [LV.den, Sem.run_bind, h1, Result.andThen_ok]
            rcases eqV_shape hr with ⟨p, q, rfl, rfl⟩ | ⟨k, p, l, q, rfl, rfl⟩ | ⟨p, q, rfl, rfl⟩
            · simp only [V1.den, At.den] at h2 ⊢
              simp only [binOp, Sem.run_bind, h2, Result.andThen_ok, Sem.run_pure]
            · simp [intOf?] at hni
            · simp only [V1.den] at h2 ⊢
              simp only [binOp, Sem.run_bind, h2, Result.andThen_ok, Sem.run_pure]
              rfl
          · cases h
        · split at h
          · rename_i r hg hr
            refine pur_val1 h ?_
            obtain ⟨h1, h2⟩ := key r hg hr (.inr rfl)
            simp only [LV.den, Sem.run_bind, h1, Result.andThen_ok]
            rcases eqV_shape hr with ⟨p, q, rfl, rfl⟩ | ⟨k, p, l, q, rfl, rfl⟩ | ⟨p, q, rfl, rfl⟩
            · simp only [V1.den, At.den] at h2 ⊢
              simp only [binOp, Sem.run_bind, h2, Result.andThen_ok, Sem.run_pure]
            · simp [intOf?] at hni
            · simp only [V1.den] at h2 ⊢
              simp only [binOp, Sem.run_bind, h2, Result.andThen_ok, Sem.run_pure]
              rfl
          · cases h
        · cases h
      · cases h
    · cases h

end
end Go.Lr

/- The local evaluator: from a run to what a call does; summaries. -/
namespace Go.Lr
open Go.RowKit

def E0 : Env := fun _ => (0, 0)
def noP : Nat → Bool := fun _ => false

theorem den_noP {E : Env} {v : LV} (h : v.ok noP = true) : v.den E = v.den E0 := LV.den_congr (p := noP) (fun i hi => by cases hi) h
theorem denL_noP {E : Env} {l : List LV} (h : ∀ v ∈ l, v.ok noP = true) : l.map (LV.den E) = l.map (LV.den E0) := List.map_congr_left fun v hv => den_noP (h v hv)
theorem denA_noP {E : Env} {l : List At} (h : okL noP l = true) : l.map (At.den E) = l.map (At.den E0) := denL_congr (p := noP) (fun i hi => by cases hi) h
theorem noP_below {n : Nat} : ∀ i, noP i = true → below n i = true := fun i hi => by cases hi

/-- What the evaluator leans on, of a program and its summaries. -/
structure Sound (P : Program) (S : FuncId → Option SumK) : Prop where
  sums : AllOK P S
  mix : P.follows .mixedOrders = true
  ng : ∀ (f : FuncId) (fn : Func), P.funcs[f]? = some fn → fn.name ≠ "runtime.NumGoroutine"

def plainVs (l : List LV) : Bool :=
  match l with
  | [] => true
  | v :: l => match v.ok noP with
    | true => plainVs l
    | false => false

theorem plainVs_iff : ∀ {l : List LV}, plainVs l = true ↔ ∀ v ∈ l, v.ok noP = true
  | [] => by simp [plainVs]
  | v :: l => by
    simp only [plainVs, List.mem_cons, forall_eq_or_imp]
    cases h : v.ok noP <;> simp [plainVs_iff (l := l)]

section
variable {P : Program} {S : FuncId → Option SumK} {z : Md}

theorem runF_body {n : Nat} {f : FuncId} {args : List LV} {m : Mem} {nb : Nat} {dec : List (Option Bool)} {v : LV} {m' : Mem} {nb' : Nat} {cs : List (Bool × Bool)} (h : runF P S z n f args m nb dec = some (v, m', nb', cs)) :
    ∃ s', exec P S z n (.body f args) ⟨.nil, 0, m, nb, dec, []⟩ = some (.val v, s') ∧ s'.mem = m' ∧ s'.nb = nb' ∧ s'.cs = cs := by
  unfold runF at h
  split at h
  · rename_i u s hs
    cases h
    exact ⟨s, hs, rfl, rfl, rfl⟩
  · cases h

/-- A call that is handed plain values, and hands back a plain one. -/
theorem calls_of_run (hs : Sound P S) {n : Nat} {f : FuncId} {args : List LV} {dec : List (Option Bool)} {v : LV} {m' : Mem} {nb' : Nat} {cs : List (Bool × Bool)} (h : runF P S z n f args [] 0 dec = some (v, m', nb', cs))
    (hc : ∀ c ∈ cs, c.1 = c.2) (ha : plainVs args = true) (hv : v.ok noP = true) (w : World) :
    Calls P f (args.map (LV.den E0)).toArray w fun e w' => e = .returned (v.den E0) ∧ Below w.heap.size w w' := by
  obtain ⟨s', h1, h2, h3, h4⟩ := runF_body h
  have ha' := plainVs_iff.1 ha
  obtain ⟨v', b1, b2, b3, b4, b5, b6, b7, b8⟩ := (exec_sound (binOK P) hs.sums hs.mix hs.ng n).2.2.2 f args _ _ s' h1 (fun i b hb => by simp [getM] at hb) trivial (fun u hu => LV.ok_mono noP_below (ha' u hu))
  cases b1
  have := b8 (by rw [Good, h4]; exact hc) E0 w ⟨⟨fun i b hb => by simp [getM] at hb, fun i j hi => by simp [getM] at hi⟩, fun i b hb => by simp [getM] at hb, trivial⟩
  refine this.mono fun e w' he => ?_
  obtain ⟨E', rfl, _, hx⟩ := he
  refine ⟨by rw [den_noP hv], hx.os, hx.tape, hx.output, hx.size, fun k hk => hx.frame k hk fun i hi => by simp [getM] at hi⟩

/-- The function is the program's own text. -/
def Own (P : Program) (f : FuncId) : Prop := ∃ fn, P.funcs[f]? = some fn ∧ fn.name ≠ "runtime.NumGoroutine" ∧ fn.body.isSome

theorem own_of (hs : Sound P S) {f : FuncId} {fn : Func} (h : P.funcs[f]? = some fn) (hb : fn.body.isSome = true) : Own P f := ⟨fn, h, hs.ng f fn h, hb⟩

theorem post_plain {w w' : World} {E : Env} {g : Nat → Option Blk} {nb : Nat} {v : LV} {cs : List (Bool × Bool)} (hr : Rel E g w) (hb : Below w.heap.size w w') : Post w E g nb ⟨v, [], [], [], cs⟩ E w' := by
  refine ⟨fun _ _ => rfl, ⟨fun i b h => ?_, hr.inj⟩, hb.os, hb.tape, hb.output, hb.size, fun k hk _ => hb.block k hk, fun i h1 h2 => by simp at h2; omega⟩
  obtain ⟨r, h1, h2, h3⟩ := hr.blk i b h
  exact ⟨r, by rw [hb.block _ (Array.getElem?_eq_some_iff.1 h1).1]; exact h1, h2, h3⟩

-- summaries of functions of plain values
/-- F: the value, and what is asked. -/
def pureSum (F : List LV → Option (LV × List (Bool × Bool))) : Sum := fun args =>
  match plainVs args with
  | true => match F args with
    | some (v, cs) => match v.ok noP with
      | true => some ⟨[], [], fun _ _ _ => some ⟨v, [], [], cs⟩⟩
      | false => none
    | none => none
  | false => none

theorem pureSum_ok {f : FuncId} {F : List LV → Option (LV × List (Bool × Bool))}
    (h : ∀ args v cs, F args = some (v, cs) → (∀ c ∈ cs, c.1 = c.2) → ∀ w, CallOK P f (args.map (LV.den E0)).toArray w fun u w' => u = v.den E0 ∧ Below w.heap.size w w') : SumOK P f (pureSum F) := by
  intro args t g nb p rdB wrB ans ws E w hs hr hw _ hgo hz hc hrel hg hargs hn
  unfold pureSum at hs
  split at hs
  · rename_i hp
    split at hs
    · rename_i v cs hF
      split at hs
      · rename_i hv
        cases hs
        simp only [Option.some.injEq] at hgo
        subst hgo
        simp only [zipW] at hz
        cases hz
        rw [denL_noP (plainVs_iff.1 hp)]
        refine (h args v cs hF hc w).imp (fun ⟨fn, h1, h2, h3, h4⟩ => ⟨fn, h1, h2, h3, h4.mono ?_⟩) (fun ⟨u, w', h1, h2⟩ => ⟨u, w', h1, E, ?_, post_plain hrel h2.2⟩)
        · rintro e w' ⟨u, rfl, rfl, hb⟩
          exact ⟨_, rfl, E, (den_noP hv).symm, post_plain hrel hb⟩
        · rw [h2.1]; exact (den_noP hv).symm
      · cases hs
    · cases hs
  · cases hs

theorem callOK_of {f : FuncId} {args : Array Value} {w : World} {v : Value} {B : World → World → Prop} (ho : Own P f) (h : Calls P f args w fun e w' => e = .returned v ∧ B w w') : CallOK P f args w fun u w' => u = v ∧ B w w' := by
  obtain ⟨fn, h1, h2, h3⟩ := ho
  exact .inl ⟨fn, h1, h2, h3, h.mono fun e w' he => ⟨v, he.1, rfl, he.2⟩⟩

-- a pointer to a struct of one flag, and plain values
/-- One block holds other cells; nothing else that was there has turned. -/
structure Turned (b : Nat) (o : Obj) (w w' : World) : Prop where
  os : w'.os = w.os
  tape : w'.tape = w.tape
  output : w'.output = w.output
  size : w.heap.size ≤ w'.heap.size
  this : w'.heap[b]? = some o
  block : ∀ k, k < w.heap.size → k ≠ b → w'.heap[k]? = w.heap[k]?

def flag (ty : TypeId) (h : Bool) : Blk := ⟨ty, (0, 0), 0, [.bool h]⟩
def flagO (ty : TypeId) (h : Bool) : Obj := .cells #[.bool h] ty (0, 0)

/-- A method that turns a flag, off a run. -/
theorem acc_of_run (hs : Sound P S) {n : Nat} {f : FuncId} {args : List LV} {dec : List (Option Bool)} {v : LV} {m' : Mem} {nb' : Nat} {cs : List (Bool × Bool)} {ty : TypeId} {h h' : Bool}
    (hrun : runF P S z n f (.v (.one (.ptr 0 0)) :: args) [(0, flag ty h)] 1 dec = some (v, m', nb', cs)) (hm : getM m' 0 = some (flag ty h')) (hc : ∀ c ∈ cs, c.1 = c.2) (ha : plainVs args = true) (hv : v.ok noP = true)
    (w : World) (b : Nat) (hb : w.heap[b]? = some (flagO ty h)) :
    Calls P f (Value.pointer (some ⟨b, 0, none⟩) :: args.map (LV.den E0)).toArray w fun e w' => e = .returned (v.den E0) ∧ Turned b (flagO ty h') w w' := by
  obtain ⟨s', h1, h2, h3, h4⟩ := runF_body hrun
  have ha' := plainVs_iff.1 ha
  have hget : ∀ i c, getM [(0, flag ty h)] i = some c → i = 0 ∧ c = flag ty h := by
    intro i c hc
    rw [getM_cons] at hc
    by_cases hi : i = 0
    · rw [if_pos hi] at hc; cases hc; exact ⟨hi, rfl⟩
    · rw [if_neg hi] at hc; simp [getM] at hc
  obtain ⟨v', b1, b2, b3, b4, b5, b6, b7, b8⟩ := (exec_sound (binOK P) hs.sums hs.mix hs.ng n).2.2.2 f (.v (.one (.ptr 0 0)) :: args) _ _ s' h1 (fun i c hc => by
    obtain ⟨rfl, rfl⟩ := hget i c hc
    exact ⟨Nat.zero_lt_one, rfl⟩) ⟨rfl, trivial⟩ (fun u hu => by
    rcases List.mem_cons.1 hu with rfl | hu
    · rfl
    · exact LV.ok_mono noP_below (ha' u hu))
  cases b1
  have hmr : MRel (fun _ => (b, 0)) ⟨.nil, 0, [(0, flag ty h)], 1, dec, []⟩ w := by
    refine ⟨⟨fun i c hc => ?_, fun i j hi hj _ => ?_⟩, fun i c hc => ?_, ⟨rfl, trivial⟩⟩
    · obtain ⟨rfl, rfl⟩ := hget i c hc
      exact ⟨[], hb, fun _ => rfl, fun hne => absurd rfl hne⟩
    · obtain ⟨c, hc⟩ := Option.isSome_iff_exists.1 hi
      obtain ⟨d, hd⟩ := Option.isSome_iff_exists.1 hj
      rw [(hget i c hc).1, (hget j d hd).1]
    · obtain ⟨rfl, rfl⟩ := hget i c hc
      exact ⟨Nat.zero_lt_one, rfl⟩
  have := b8 (by rw [Good, h4]; exact hc) (fun _ => (b, 0)) w hmr
  have hargs : ((LV.v (V1.one (At.ptr 0 0))) :: args).map (LV.den fun _ => (b, 0)) = Value.pointer (some ⟨b, 0, none⟩) :: args.map (LV.den E0) := by
    rw [List.map_cons, denL_noP ha']
    rfl
  rw [hargs] at this
  refine this.mono fun e w' he => ?_
  obtain ⟨E', rfl, hmr', hx⟩ := he
  refine ⟨by rw [den_noP hv], hx.os, hx.tape, hx.output, hx.size, ?_, fun k hk hne => hx.frame k hk fun i hi he => ?_⟩
  · obtain ⟨r, g1, g2, _⟩ := hmr'.rel.blk 0 (flag ty h') (by rw [h2]; exact hm)
    rw [hx.agree 0 (by show 0 < 1; omega)] at g1
    rw [g1, g2 rfl]
    rfl
  · exact hne he.symm

theorem post_turned {w w' : World} {E : Env} {g : Nat → Option Blk} {nb c : Nat} {v : LV} {ty : TypeId} {h h' : Bool} (hr : Rel E g w) (hc : g c = some (flag ty h)) (ht : Turned (E c).1 (flagO ty h') w w') :
    Post w E g nb ⟨v, [(c, some (flag ty h'))], [], [], []⟩ E w' := by
  refine ⟨fun _ _ => rfl, ⟨fun i b hb => ?_, fun i j hi hj he => ?_⟩, ht.os, ht.tape, ht.output, ht.size, fun k hk hne => ht.block k hk (fun e => hne c (by simp [hc]) e.symm), fun i h1 h2 => by simp at h2; omega⟩
  · simp only [nwG, wrG] at hb
    by_cases hi : i = c
    · subst hi
      rw [if_pos rfl] at hb
      cases hb
      exact ⟨[], ht.this, fun _ => rfl, fun hne => absurd rfl hne⟩
    · rw [if_neg hi] at hb
      obtain ⟨r, h1, h2, h3⟩ := hr.blk i b hb
      refine ⟨r, ?_, h2, h3⟩
      rw [ht.block _ (Array.getElem?_eq_some_iff.1 h1).1 (fun e => hi (hr.inj i c (by simp [hb]) (by simp [hc]) e))]
      exact h1
  · simp only [nwG, wrG] at hi hj
    refine hr.inj i j ?_ ?_ he
    · by_cases h1 : i = c
      · rw [h1]; simp [hc]
      · simpa [if_neg h1] using hi
    · by_cases h1 : j = c
      · rw [h1]; simp [hc]
      · simpa [if_neg h1] using hj

/-- F: of the values and the flag: the value, the flag, what is asked. -/
def accSum (ty : TypeId) (F : List LV → Bool → Option (LV × Bool × List (Bool × Bool))) : Sum := fun args =>
  match args with
  | .v (.one (.ptr c 0)) :: rest => match plainVs rest with
    | true => some ⟨[], [c], fun _ wB _ => match wB with
      | [⟨t, (0, 0), 0, [.bool h]⟩] => match Nat.beq t ty with
        | true => match F rest h with
          | some (v, h', cs) => match v.ok noP with
            | true => some ⟨v, [flag ty h'], [], cs⟩
            | false => none
          | none => none
        | false => none
      | _ => none⟩
    | false => none
  | _ => none

theorem accSum_ok {f : FuncId} {ty : TypeId} {F : List LV → Bool → Option (LV × Bool × List (Bool × Bool))}
    (h : ∀ args hb v h' cs, F args hb = some (v, h', cs) → (∀ c ∈ cs, c.1 = c.2) → plainVs args = true → ∀ (w : World) (b : Nat), w.heap[b]? = some (flagO ty hb) →
      CallOK P f (Value.pointer (some ⟨b, 0, none⟩) :: args.map (LV.den E0)).toArray w fun u w' => u = v.den E0 ∧ Turned b (flagO ty h') w w') : SumOK P f (accSum ty F) := by
  intro args t g nb p rdB wrB ans ws E w hs hr hw _ hgo hz hc hrel hg hargs hn
  unfold accSum at hs
  split at hs
  · rename_i c rest
    split at hs
    · rename_i hp
      cases hs
      simp only at hgo hw
      split at hgo
      · rename_i t' hb
        split at hgo
        · rename_i hty
          rw [nbeq] at hty
          have hty' : t' = ty := by simpa using hty
          subst hty'
          split at hgo
          · rename_i v h' cs hF
            split at hgo
            · rename_i hv
              cases hgo
              simp only [liveAll] at hw
              split at hw
              · rename_i k r hk hr'
                cases hr'
                cases hw
                simp only [zipW] at hz
                cases hz
                obtain ⟨r', g1, g2, _⟩ := hrel.blk c _ hk
                have hcell : w.heap[(E c).1]? = some (flagO t' hb) := by rw [g1, g2 rfl]; rfl
                have hargs' : ((LV.v (V1.one (At.ptr c 0))) :: rest).map (LV.den E) = Value.pointer (some ⟨(E c).1, 0, none⟩) :: rest.map (LV.den E0) := by
                  rw [List.map_cons, denL_noP (plainVs_iff.1 hp)]
                  rfl
                rw [hargs']
                refine (h rest hb v h' cs hF hc hp w (E c).1 hcell).imp (fun ⟨fn, h1, h2, h3, h4⟩ => ⟨fn, h1, h2, h3, h4.mono ?_⟩) (fun ⟨u, w', h1, h2⟩ => ⟨u, w', h1, E, ?_, post_turned hrel hk h2.2⟩)
                · rintro e w' ⟨u, rfl, rfl, ht⟩
                  exact ⟨_, rfl, E, (den_noP hv).symm, post_turned hrel hk ht⟩
                · rw [h2.1]; exact (den_noP hv).symm
              · cases hw
            · cases hgo
          · cases hgo
        · cases hgo
      · cases hgo
    · cases hs
  · cases hs

-- math/bits.Add64, Sub64: the model answers
def addF : List LV → Option (LV × List (Bool × Bool))
  | [.v (.one (.int .u64 x)), .v (.one (.int .u64 y)), .v (.one (.int .u64 c))] =>
    some (.tup [.one (.int .u64 (u64 (x + y + c))), .one (.int .u64 ((x + y + c) / 18446744073709551616))], [(decide (0 ≤ x) && (decide (0 ≤ y) && (decide (0 ≤ c) && decide (c ≤ 1))), true)])
  | _ => none

/-- What is borrowed. -/
def borrow (x y c : Int) : Int := if x < y + c then 1 else 0

def subF : List LV → Option (LV × List (Bool × Bool))
  | [.v (.one (.int .u64 x)), .v (.one (.int .u64 y)), .v (.one (.int .u64 c))] =>
    some (.tup [.one (.int .u64 (u64 (x - y - c))), .one (.int .u64 (borrow x y c))], [(decide (0 ≤ x) && (decide (0 ≤ y) && (decide (y < 18446744073709551616) && (decide (0 ≤ c) && decide (c ≤ 1)))), true)])
  | _ => none

theorem add64_ok {f : FuncId} {fn : Func} (hf : P.funcs[f]? = some fn) (hname : (fn.name == "runtime.NumGoroutine") = false) (hb : fn.body.isNone = true) (hn : Extern.findNext fn = none) (he : Extern.find fn = some add64Entry) : SumOK P f (pureSum addF) := by
  refine pureSum_ok fun args v cs hF hc w => .inr ?_
  unfold addF at hF
  split at hF
  · rename_i x y c
    cases hF
    have hx := hc _ (List.mem_singleton.2 rfl)
    simp only [Bool.and_eq_true, decide_eq_true_eq] at hx
    obtain ⟨h1, h2, h3, h4⟩ := hx
    refine ⟨_, w, ?_, rfl, .refl _ _⟩
    have : ([LV.v (V1.one (At.int .u64 x)), .v (.one (.int .u64 y)), .v (.one (.int .u64 c))].map (LV.den E0)).toArray = #[.int .u64 x, .int .u64 y, .int .u64 c] := rfl
    rw [this, run_callFunc_extern hf hname hb hn he, run_add64 x y c h1 h2 h3 h4]
    rfl
  · cases hF

def sub64E : Array Value → Sem Value := fun args => do
  let (x, y, b) ← Extern.MathBitsCarry.three "Sub64" args
  pure (Extern.MathBitsCarry.pair ((x + Extern.MathBitsCarry.m64 - y - b) % Extern.MathBitsCarry.m64) (if x < y + b then 1 else 0))

theorem run_sub64E (x y b : Nat) (hb : b ≤ 1) (w : World) :
    (sub64E #[.int .u64 x, .int .u64 y, .int .u64 b]).run P w =
      .ok (.tuple #[.int .u64 (((x + 18446744073709551616 - y - b) % 18446744073709551616 : Nat) : Int), .int .u64 ((if x < y + b then 1 else 0 : Nat) : Int)]) w := by
  have : b = 0 ∨ b = 1 := by omega
  rcases this with rfl | rfl <;> rfl

theorem sub64_ok {f : FuncId} {fn : Func} (hf : P.funcs[f]? = some fn) (hname : (fn.name == "runtime.NumGoroutine") = false) (hb : fn.body.isNone = true) (hn : Extern.findNext fn = none) (he : Extern.find fn = some sub64E) : SumOK P f (pureSum subF) := by
  refine pureSum_ok fun args v cs hF hc w => .inr ?_
  unfold subF at hF
  split at hF
  · rename_i x y c
    cases hF
    have hx := hc _ (List.mem_singleton.2 rfl)
    simp only [Bool.and_eq_true, decide_eq_true_eq] at hx
    obtain ⟨h1, h2, h2', h3, h4⟩ := hx
    obtain ⟨X, rfl⟩ := Int.eq_ofNat_of_zero_le h1
    obtain ⟨Y, rfl⟩ := Int.eq_ofNat_of_zero_le h2
    obtain ⟨C, rfl⟩ := Int.eq_ofNat_of_zero_le h3
    refine ⟨_, w, ?_, rfl, .refl _ _⟩
    have : ([LV.v (V1.one (At.int .u64 (X : Int))), .v (.one (.int .u64 (Y : Int))), .v (.one (.int .u64 (C : Int)))].map (LV.den E0)).toArray = #[.int .u64 (X : Int), .int .u64 (Y : Int), .int .u64 (C : Int)] := rfl
    rw [this, run_callFunc_extern hf hname hb hn he, run_sub64E X Y C (by omega)]
    have e1 : (((X + 18446744073709551616 - Y - C) % 18446744073709551616 : Nat) : Int) = u64 ((X : Int) - Y - C) := by unfold u64; omega
    have e2 : ((if X < Y + C then 1 else 0 : Nat) : Int) = if (X : Int) < (Y : Int) + (C : Int) then 1 else 0 := by
      by_cases h : X < Y + C
      · rw [if_pos h, if_pos (by omega)]; rfl
      · rw [if_neg h, if_neg (by omega)]; rfl
    rw [e1, e2]
    rfl
  · cases hF

end
end Go.Lr

/- The local evaluator: summaries that the evaluator makes itself. -/
namespace Go.Lr
open Go.RowKit

section
variable {P : Program} {S : FuncId → Option SumK} {z : Md}

/-- Of plain values. -/
def autoP (P : Program) (S : FuncId → Option SumK) (z : Md) (n : Nat) (f : FuncId) : Sum := pureSum fun args =>
  match runF P S z n f args [] 0 [] with
  | some (v, _, _, cs) => some (v, cs)
  | none => none

theorem pureSum_ok' {f : FuncId} {F : List LV → Option (LV × List (Bool × Bool))}
    (h : ∀ args v cs, F args = some (v, cs) → (∀ c ∈ cs, c.1 = c.2) → plainVs args = true → v.ok noP = true → ∀ w, CallOK P f (args.map (LV.den E0)).toArray w fun u w' => u = v.den E0 ∧ Below w.heap.size w w') : SumOK P f (pureSum F) := by
  intro args t g nb p rdB wrB ans ws E w hs hr hw hnd hgo hz hc hrel hg hargs hn
  refine pureSum_ok (F := fun a => if plainVs a = true then (match F a with | some (v, cs) => if v.ok noP = true then some (v, cs) else none | none => none) else none) (fun args v cs hF hc w => ?_) args t g nb p rdB wrB ans ws E w ?_ hr hw hnd hgo hz hc hrel hg hargs hn
  · split at hF
    · rename_i hp
      split at hF
      · rename_i v' cs' hF'
        split at hF
        · rename_i hv
          cases hF
          exact h args v cs hF' hc hp hv w
        · cases hF
      · cases hF
    · cases hF
  · unfold pureSum at hs ⊢
    cases hp : plainVs args with
    | false => rw [hp] at hs; cases hs
    | true =>
      rw [hp] at hs
      simp only [hp, if_true] at hs ⊢
      cases hF : F args with
      | none => rw [hF] at hs; cases hs
      | some q =>
        obtain ⟨v, cs⟩ := q
        rw [hF] at hs
        simp only at hs ⊢
        cases hv : v.ok noP with
        | false => rw [hv] at hs; cases hs
        | true =>
          rw [hv] at hs
          simp only [if_true, hv]
          exact hs

theorem autoP_ok (hs : Sound P S) {n : Nat} {f : FuncId} (ho : Own P f) : SumOK P f (autoP P S z n f) := by
  refine pureSum_ok' fun args v cs hF hc hp hv w => ?_
  split at hF
  · rename_i v' m' nb' cs' hrun
    cases hF
    exact callOK_of ho (calls_of_run hs hrun hc hp hv w)
  · cases hF

/-- A first argument that points into one block. -/
def refTo : LV → Option (Nat × LV)
  | .v (.one (.ptr b o)) => some (b, .v (.one (.ptr 0 o)))
  | .v (.one (.sl b o n c)) => some (b, .v (.one (.sl 0 o n c)))
  | _ => none

theorem refTo_spec {x y : LV} {b : Nat} (h : refTo x = some (b, y)) (E : Env) : x.den E = y.den (fun _ => E b) ∧ y.ok (below 1) = true ∧ ∀ E', y.den E' = y.den fun _ => E' 0 := by
  unfold refTo at h
  split at h <;> first | (cases h; exact ⟨rfl, rfl, fun _ => rfl⟩) | cases h

/-- One block is handed on, and plain values. -/
def autoM (P : Program) (S : FuncId → Option SumK) (z : Md) (n : Nat) (f : FuncId) : Sum := fun args =>
  match args with
  | x :: rest => match refTo x, plainVs rest with
    | some (b, y), true => some ⟨[], [b], fun _ wB _ => match wB with
      | [k] => match okL noP k.cells with
        | true => match runF P S z n f (y :: rest) [(0, k)] 1 [] with
          | some (v, m', _, cs) => match getM m' 0 with
            | some k' => match Nat.beq k'.es k.es, okL noP k'.cells, v.ok noP with
              | true, true, true => some ⟨v, [k'], [], cs⟩
              | _, _, _ => none
            | none => none
          | none => none
        | false => none
      | _ => none⟩
    | _, _ => none
  | [] => none

theorem autoM_ok (hs : Sound P S) {n : Nat} {f : FuncId} (ho : Own P f) : SumOK P f (autoM P S z n f) := by
  intro args t g nb p rdB wrB ans ws E w hs' hr hw _ hgo hz hc hrel hg hargs hn
  unfold autoM at hs'
  split at hs'
  · rename_i x rest
    split at hs'
    · rename_i b y href hp
      cases hs'
      simp only at hgo hw
      split at hgo
      · rename_i k
        split at hgo
        · rename_i hk
          split at hgo
          · rename_i v m' nb' cs hrun
            split at hgo
            · rename_i k' hk'
              split at hgo
              · rename_i hes hok' hv
                cases hgo
                simp only [liveAll] at hw
                split at hw
                · rename_i q r hq hr'
                  cases hr'
                  cases hw
                  simp only [zipW] at hz
                  cases hz
                  rw [nbeq] at hes
                  have hes' : k'.es = k.es := by simpa using hes
                  obtain ⟨r1, r2, r3⟩ := refTo_spec href E
                  have hp' := plainVs_iff.1 hp
                  obtain ⟨s', h1, h2, h3, h4⟩ := runF_body hrun
                  have hget : ∀ i c, getM [(0, k)] i = some c → i = 0 ∧ c = k := by
                    intro i c hc
                    rw [getM_cons] at hc
                    by_cases hi : i = 0
                    · rw [if_pos hi] at hc; cases hc; exact ⟨hi, rfl⟩
                    · rw [if_neg hi] at hc; simp [getM] at hc
                  obtain ⟨v', b1, b2, b3, b4, b5, b6, b7, b8⟩ := (exec_sound (binOK P) hs.sums hs.mix hs.ng n).2.2.2 f (y :: rest) _ _ s' h1 (fun i c hc => by
                    obtain ⟨rfl, rfl⟩ := hget i c hc
                    exact ⟨Nat.zero_lt_one, okL_mono noP_below hk⟩) ⟨rfl, trivial⟩ (fun u hu => by
                    rcases List.mem_cons.1 hu with rfl | hu
                    · exact r2
                    · exact LV.ok_mono noP_below (hp' u hu))
                  cases b1
                  obtain ⟨r0, g1, g2, g3⟩ := hrel.blk b k hq
                  have hmr : MRel (fun _ => E b) ⟨.nil, 0, [(0, k)], 1, [], []⟩ w := by
                    refine ⟨⟨fun i c hc => ?_, fun i j hi hj _ => ?_⟩, fun i c hc => ?_, ⟨rfl, trivial⟩⟩
                    · obtain ⟨rfl, rfl⟩ := hget i c hc
                      exact ⟨r0, by rw [denA_noP hk] at g1 ⊢; exact g1, g2, g3⟩
                    · obtain ⟨c, hc⟩ := Option.isSome_iff_exists.1 hi
                      obtain ⟨d, hd⟩ := Option.isSome_iff_exists.1 hj
                      rw [(hget i c hc).1, (hget j d hd).1]
                    · obtain ⟨rfl, rfl⟩ := hget i c hc
                      exact ⟨Nat.zero_lt_one, okL_mono noP_below hk⟩
                  have hcall := b8 (by rw [Good, h4]; exact hc) (fun _ => E b) w hmr
                  have hargs' : ((y :: rest).map (LV.den fun _ => E b)) = (x :: rest).map (LV.den E) := by
                    rw [List.map_cons, List.map_cons, ← r1, denL_noP hp', denL_noP (E := E) hp']
                  rw [hargs'] at hcall
                  obtain ⟨fn, f1, f2, f3⟩ := ho
                  refine .inl ⟨fn, f1, f2, f3, hcall.mono ?_⟩
                  rintro e w' ⟨E', rfl, hmr', hx⟩
                  refine ⟨_, rfl, E, by rw [den_noP hv, den_noP (E := E) hv], ?_⟩
                  obtain ⟨r', q1, q2, q3⟩ := hmr'.rel.blk 0 k' (by rw [h2]; exact hk')
                  rw [hx.agree 0 (by show 0 < 1; omega)] at q1 q3
                  have hframe : ∀ j, j < w.heap.size → j ≠ (E b).1 → w'.heap[j]? = w.heap[j]? := fun j hj hne => hx.frame j hj fun i hi he => hne he.symm
                  refine ⟨fun _ _ => rfl, ⟨fun i c hic => ?_, fun i j hi hj he => ?_⟩, hx.os, hx.tape, hx.output, hx.size, fun j hj hne => hframe j hj fun e => hne b (by simp [hq]) e.symm, fun i h1 h2 => by simp at h2; omega⟩
                  · simp only [nwG, wrG] at hic
                    by_cases hi : i = b
                    · subst hi
                      rw [if_pos rfl] at hic
                      cases hic
                      exact ⟨r', by rw [denA_noP hok'] at q1 ⊢; exact q1, q2, q3⟩
                    · rw [if_neg hi] at hic
                      obtain ⟨r, u1, u2, u3⟩ := hrel.blk i c hic
                      refine ⟨r, ?_, u2, u3⟩
                      rw [hframe _ (Array.getElem?_eq_some_iff.1 u1).1 (fun e => hi (hrel.inj i b (by simp [hic]) (by simp [hq]) e))]
                      exact u1
                  · simp only [nwG, wrG] at hi hj
                    refine hrel.inj i j ?_ ?_ he
                    · by_cases h1 : i = b
                      · rw [h1]; simp [hq]
                      · simpa [if_neg h1] using hi
                    · by_cases h1 : j = b
                      · rw [h1]; simp [hq]
                      · simpa [if_neg h1] using hj
                · cases hw
              · cases hgo
            · cases hgo
          · cases hgo
        · cases hgo
      · cases hgo
    · cases hs'
  · cases hs'

/-- One summary more. -/
def more (S : FuncId → Option SumK) (f : FuncId) (s : Sum) : FuncId → Option SumK := fun g =>
  match Nat.beq g f with
  | true => some (.old s)
  | false => S g
def moreP (S : FuncId → Option SumK) (f : FuncId) (s : List LV → List (Nat × LV) → Option Tch) : FuncId → Option SumK := fun g =>
  match Nat.beq g f with
  | true => some (.peek s)
  | false => S g

theorem Sound.moreP (h : Sound P S) {f : FuncId} {s : List LV → List (Nat × LV) → Option Tch} (hs : PeekOK P f s) : Sound P (Go.Lr.moreP S f s) := by
  refine ⟨fun g t hg => ?_, h.mix, h.ng⟩
  unfold Go.Lr.moreP at hg
  split at hg
  · rename_i he
    cases hg
    rw [nbeq] at he
    have : g = f := by simpa using he
    subst this
    exact hs
  · exact h.sums g t hg
theorem Sound.more (h : Sound P S) {f : FuncId} {s : Sum} (hs : SumOK P f s) : Sound P (Go.Lr.more S f s) := by
  refine ⟨fun g t hg => ?_, h.mix, h.ng⟩
  unfold Go.Lr.more at hg
  split at hg
  · rename_i he
    cases hg
    rw [nbeq] at he
    have : g = f := by simpa using he
    subst this
    exact hs
  · exact h.sums g t hg

theorem Sound.none (hmix : P.follows .mixedOrders = true) (hng : ∀ (f : FuncId) (fn : Func), P.funcs[f]? = some fn → fn.name ≠ "runtime.NumGoroutine") : Sound P (fun _ => Option.none) :=
  ⟨(fun f s h => by cases h), hmix, hng⟩

/-- A law of plain values, off its run. -/
theorem law_of_run (hs : Sound P S) {n : Nat} {f : FuncId} {args : List LV} {dec : List (Option Bool)} {v : LV} {cs : List (Bool × Bool)} (h : (runF P S z n f args [] 0 dec).map (fun r => (r.1, r.2.2.2)) = some (v, cs))
    (hc : ∀ c ∈ cs, c.1 = c.2) (ha : plainVs args = true) (hv : v.ok noP = true) (w : World) :
    Calls P f (args.map (LV.den E0)).toArray w fun e w' => e = .returned (v.den E0) ∧ Below w.heap.size w w' := by
  cases hr : runF P S z n f args [] 0 dec with
  | none => rw [hr] at h; cases h
  | some q =>
    obtain ⟨v', m', nb', cs'⟩ := q
    rw [hr] at h
    cases h
    exact calls_of_run hs hr hc ha hv w

end
end Go.Lr

/- The local evaluator: contracts of methods on a flag, off their runs. -/
namespace Go.Lr
open Go.RowKit

def A0 : LV := .v (.one (.ptr 0 0))

section
variable {P : Program} {S : FuncId → Option SumK} {z : Md}

theorem acc_run (hs : Sound P S) {n : Nat} {f : FuncId} {args : List LV} {dec : List (Option Bool)} {v : LV} {cs : List (Bool × Bool)} {ty : TypeId} {h h' : Bool}
    (hrun : (runF P S z n f (A0 :: args) [(0, flag ty h)] 1 dec).map (fun r => (r.1, getM r.2.1 0, r.2.2.2)) = some (v, some (flag ty h'), cs)) (hc : ∀ c ∈ cs, c.1 = c.2) (ha : plainVs args = true) (hv : v.ok noP = true)
    (w : World) (b : Nat) (hb : w.heap[b]? = some (flagO ty h)) :
    Calls P f (Value.pointer (some ⟨b, 0, none⟩) :: args.map (LV.den E0)).toArray w fun e w' => e = .returned (v.den E0) ∧ Turned b (flagO ty h') w w' := by
  cases hr : runF P S z n f (A0 :: args) [(0, flag ty h)] 1 dec with
  | none => rw [hr] at hrun; cases hrun
  | some q =>
    obtain ⟨v', m', nb', cs'⟩ := q
    rw [hr] at hrun
    simp only [Option.map_some, Option.some.injEq, Prod.mk.injEq] at hrun
    obtain ⟨rfl, hm, rfl⟩ := hrun
    exact acc_of_run hs hr hm hc ha hv w b hb

/-- A run at every value of the flag, path by path: 'the values lead here'. -/
theorem accSum_run (hs : Sound P S) {f : FuncId} (ho : Own P f) {ty : TypeId} {F : List LV → Bool → Option (LV × Bool × List (Bool × Bool))}
    (h : ∀ args hb v h' cs, F args hb = some (v, h', cs) → (∀ c ∈ cs, c.1 = c.2) → v.ok noP = true ∧ ∃ (n : Nat) (dec : List (Option Bool)) (cs' : List (Bool × Bool)),
      (runF P S z n f (A0 :: args) [(0, flag ty hb)] 1 dec).map (fun r => (r.1, getM r.2.1 0, r.2.2.2)) = some (v, some (flag ty h'), cs') ∧ ∀ c ∈ cs', c.1 = c.2) : SumOK P f (accSum ty F) := by
  refine accSum_ok fun args hb v h' cs hF hc hp w b hbk => ?_
  obtain ⟨hv, n, dec, cs', hrun, hc'⟩ := h args hb v h' cs hF hc
  exact callOK_of ho (acc_run hs hrun hc' hp hv w b hbk)

/-- The like for plain values. -/
theorem pureSum_run (hs : Sound P S) {f : FuncId} (ho : Own P f) {F : List LV → Option (LV × List (Bool × Bool))}
    (h : ∀ args v cs, F args = some (v, cs) → (∀ c ∈ cs, c.1 = c.2) → ∃ (n : Nat) (dec : List (Option Bool)) (cs' : List (Bool × Bool)),
      (runF P S z n f args [] 0 dec).map (fun r => (r.1, r.2.2.2)) = some (v, cs') ∧ ∀ c ∈ cs', c.1 = c.2) : SumOK P f (pureSum F) := by
  refine pureSum_ok' fun args v cs hF hc hp hv w => ?_
  obtain ⟨n, dec, cs', hrun, hc'⟩ := h args v cs hF hc
  exact callOK_of ho (law_of_run hs hrun hc' hp hv w)

/-- A law's run: its answer, and what is asked on the way. -/
theorem law_true (hs : Sound P S) {n : Nat} {f : FuncId} {args : List LV} {dec : List (Option Bool)} {t : Bool} {cs : List (Bool × Bool)} (h : (runF P S z n f args [] 0 dec).map (fun r => (r.1, r.2.2.2)) = some (.v (.one (.bool t)), cs))
    (ht : t = true) (hc : ∀ c ∈ cs, c.1 = c.2) (ha : plainVs args = true) (w : World) :
    Calls P f (args.map (LV.den E0)).toArray w fun e w' => e = .returned (.bool true) ∧ Below w.heap.size w w' := by
  subst ht
  exact law_of_run hs h hc ha rfl w

/-- A closed law, called by another: its answer is known. -/
theorem pureSum_const (hs : Sound P S) {f : FuncId} (ho : Own P f) {n : Nat} {v : LV} (h : (runF P S z n f [] [] 0 []).map (fun r => (r.1, r.2.2.2)) = some (v, [])) :
    SumOK P f (pureSum fun args => match args with | [] => some (v, []) | _ => none) := by
  refine pureSum_run (z := z) hs ho fun args u cs hF _ => ?_
  split at hF
  · cases hF
    exact ⟨n, [], [], h, by simp⟩
  · cases hF

end
end Go.Lr

/- Small laws for the printed proofs. -/
namespace Go.Lr
theorem ae_nil : ∀ c ∈ ([] : List (Bool × Bool)), c.1 = c.2 := fun _ h => nomatch h
theorem ae_cons {a b : Bool} {l : List (Bool × Bool)} (h : a = b) (hl : ∀ c ∈ l, c.1 = c.2) : ∀ d ∈ (a, b) :: l, d.1 = d.2 := fun d hd => by
  cases hd with
  | head => exact h
  | tail _ h => exact hl d h
theorem hd_of {a b : Bool} {l : List (Bool × Bool)} (h : ∀ c ∈ (a, b) :: l, c.1 = c.2) : a = b := h (a, b) (.head _)
theorem tl_of {c : Bool × Bool} {l : List (Bool × Bool)} (h : ∀ d ∈ c :: l, d.1 = d.2) : ∀ d ∈ l, d.1 = d.2 := fun d hd => h d (.tail _ hd)
theorem bool_cases (b : Bool) : b = true ∨ b = false := by cases b <;> simp
theorem cond_t {α : Type} {c : Bool} {a b : α} (h : c = true) : (bif c then a else b) = a := by subst h; rfl
theorem cond_f {α : Type} {c : Bool} {a b : α} (h : c = false) : (bif c then a else b) = b := by subst h; rfl
end Go.Lr

/- The local evaluator: a summary told in other words. -/
namespace Go.Lr
open Go.RowKit

def accT (ty : TypeId) (F : List LV → Bool → Option (LV × Bool × List (Bool × Bool))) (c : Nat) (rest : List LV) : Tch := ⟨[], [c], fun _ wB _ => match wB with
  | [⟨t, (0, 0), 0, [.bool h]⟩] => match Nat.beq t ty with
    | true => match F rest h with
      | some (v, h', cs) => match v.ok noP with
        | true => some ⟨v, [flag ty h'], [], cs⟩
        | false => none
      | none => none
    | false => none
  | _ => none⟩

section
variable {P : Program} {S : FuncId → Option SumK}

theorem SumOK.pure_re {f : FuncId} {F F' : List LV → Option (LV × List (Bool × Bool))} (h : SumOK P f (pureSum F))
    (hi : ∀ args v cs, F' args = some (v, cs) → (∀ c ∈ cs, c.1 = c.2) → ∃ cs', F args = some (v, cs') ∧ ∀ c ∈ cs', c.1 = c.2) : SumOK P f (pureSum F') := by
  intro args t g nb p rdB wrB ans ws E w hs hr hw hnd hgo hz hc hrel hg hargs hn
  unfold pureSum at hs
  split at hs
  · rename_i hp
    split at hs
    · rename_i v cs hF
      split at hs
      · rename_i hv
        cases hs
        simp only [Option.some.injEq] at hgo
        subst hgo
        obtain ⟨cs', h1, h2⟩ := hi args v cs hF hc
        refine h args ⟨[], [], fun _ _ _ => some ⟨v, [], [], cs'⟩⟩ g nb p rdB wrB ⟨v, [], [], cs'⟩ ws E w ?_ hr hw hnd rfl hz h2 hrel hg hargs hn
        unfold pureSum
        rw [hp, h1]
        simp only [hv]
      · cases hs
    · cases hs
  · cases hs

theorem SumOK.acc_re {f : FuncId} {ty : TypeId} {F F' : List LV → Bool → Option (LV × Bool × List (Bool × Bool))} (h : SumOK P f (accSum ty F))
    (hi : ∀ args hb v h' cs, F' args hb = some (v, h', cs) → (∀ c ∈ cs, c.1 = c.2) → ∃ cs', F args hb = some (v, h', cs') ∧ ∀ c ∈ cs', c.1 = c.2) : SumOK P f (accSum ty F') := by
  intro args t g nb p rdB wrB ans ws E w hs hr hw hnd hgo hz hc hrel hg hargs hn
  unfold accSum at hs
  split at hs
  · rename_i c rest
    split at hs
    · rename_i hp
      cases hs
      simp only at hgo hw hr hz
      split at hgo
      · rename_i t' hb
        split at hgo
        · rename_i hty
          split at hgo
          · rename_i v h' cs hF
            split at hgo
            · rename_i hv
              cases hgo
              obtain ⟨cs', h1, h2⟩ := hi rest hb v h' cs hF hc
              refine h (.v (.one (.ptr c 0)) :: rest) (accT ty F c rest) g nb p rdB _ ⟨v, [flag ty h'], [], cs'⟩ ws E w (by unfold accSum; simp only [hp]; rfl) hr hw hnd ?_ hz h2 hrel hg hargs hn
              simp only [accT, hty, h1, hv]
            · cases hgo
          · cases hgo
        · cases hgo
      · cases hgo
    · cases hs
  · cases hs

end
theorem all_tt {b : Bool} {l : List (Bool × Bool)} : (∀ c ∈ (b, true) :: l, c.1 = c.2) ↔ b = true ∧ ∀ c ∈ l, c.1 = c.2 := by simp
theorem all_ff {b : Bool} {l : List (Bool × Bool)} : (∀ c ∈ (b, false) :: l, c.1 = c.2) ↔ b = false ∧ ∀ c ∈ l, c.1 = c.2 := by simp
end Go.Lr

/- The local evaluator, piece by piece: from one known state to the next; loops by induction. -/
namespace Go.Lr
open Go.RowKit

/-- Slots whose values do not matter. -/
def deadT : Nat → (Nat → LV) → Tr
  | 0, _ => .nil
  | d + 1, f => .nd (f 0) (deadT d fun j => f (2 * j + 1)) (deadT d fun j => f (2 * j + 2))

theorem getT_deadT : ∀ (d : Nat) (f : Nat → LV) (t : Nat), getT (deadT d f) t = if t + 1 < 2 ^ d then f t else undefL
  | 0, f, t => by simp [deadT, getT_nil]
  | d + 1, f, 0 => by
    have : 0 < 2 ^ d := Nat.two_pow_pos d
    rw [if_pos (by rw [Nat.pow_succ]; omega)]; rfl
  | d + 1, f, t + 1 => by
    simp only [deadT]
    rw [getT_succ_nd]
    have hp : 2 ^ (d + 1) = 2 * 2 ^ d := by rw [Nat.pow_succ]; omega
    by_cases h : t % 2 = 0
    · rw [if_pos h, getT_deadT d]
      by_cases k : t / 2 + 1 < 2 ^ d
      · rw [if_pos k, if_pos (by omega)]; congr 1; omega
      · rw [if_neg k, if_neg (by omega)]
    · rw [if_neg h, getT_deadT d]
      by_cases k : t / 2 + 1 < 2 ^ d
      · rw [if_pos k, if_pos (by omega)]; congr 1; omega
      · rw [if_neg k, if_neg (by omega)]

def canT : List (Nat × LV) → Tr → Tr
  | [], T => T
  | (i, v) :: l, T => canT l (setT 16 T i v)

theorem getT_canT : ∀ (l : List (Nat × LV)) (T : Tr) (t : Nat), (∀ q ∈ l, q.1 < 60000) → (l.map (·.1)).Nodup →
    (∀ q ∈ l, q.1 = t → getT (canT l T) t = q.2) ∧ ((∀ q ∈ l, q.1 ≠ t) → getT (canT l T) t = getT T t)
  | [], T, t, _, _ => ⟨fun q hq => (by cases hq), fun _ => rfl⟩
  | (i, v) :: l, T, t, hlt, hnd => by
    simp only [List.map_cons, List.nodup_cons] at hnd
    obtain ⟨h1, h2⟩ := getT_canT l (setT 16 T i v) t (fun q hq => hlt q (List.mem_cons_of_mem _ hq)) hnd.2
    have hi : i < 60000 := hlt (i, v) (List.mem_cons_self ..)
    have hs := getT_setT 16 T i v t (by omega)
    refine ⟨fun q hq he => ?_, fun hne => ?_⟩
    · rcases List.mem_cons.1 hq with rfl | hq
      · have he' : i = t := he
        show getT (canT l (setT 16 T i v)) t = v
        rw [h2 fun q' hq' e => hnd.1 (by rw [he', ← e]; exact List.mem_map_of_mem hq'), hs, if_pos he'.symm]
      · exact h1 q hq he
    · show getT (canT l (setT 16 T i v)) t = _
      rw [h2 fun q hq => hne q (List.mem_cons_of_mem _ hq), hs, if_neg (fun e => hne (i, v) (List.mem_cons_self ..) e.symm)]

/-- A known state: some slots, some blocks. -/
structure Kst where
  live : List (Nat × LV)
  mem : Mem
  nb : Nat

def Kst.tm (A : Kst) (dead : Nat → Value) : Tr := canT A.live (deadT 16 fun t => .v (.one (.opq (dead t))))
def Kst.st (A : Kst) (sz : Nat) (dead : Nat → Value) (dec : List (Option Bool)) : St := ⟨A.tm dead, sz, A.mem, A.nb, dec, []⟩
def Kst.ms (A : Kst) : St := ⟨.nil, 0, A.mem, A.nb, [], []⟩

structure KstOK (A : Kst) : Prop where
  lt : ∀ q ∈ A.live, q.1 < 60000
  nd : (A.live.map (·.1)).Nodup
  okT : ∀ q ∈ A.live, q.2.ok (below A.nb) = true
  okM : ∀ i b, getM A.mem i = some b → i < A.nb ∧ okL (below A.nb) b.cells = true
  uq : uniq A.mem

def memOKb (nb : Nat) : Mem → Bool
  | [] => true
  | (i, b) :: m => match Nat.blt i nb with
    | true => match okL (below nb) b.cells with
      | true => match getM m i with
        | none => memOKb nb m
        | some _ => false
      | false => false
    | false => false
def liveOKb (nb : Nat) : List (Nat × LV) → Bool
  | [] => true
  | (i, v) :: l => match Nat.blt i 60000 with
    | true => match v.ok (below nb) with
      | true => match memB (l.map (·.1)) i with
        | true => false
        | false => liveOKb nb l
      | false => false
    | false => false
def canB (A : Kst) : Bool :=
  match liveOKb A.nb A.live with
  | true => memOKb A.nb A.mem
  | false => false

theorem memB_false : ∀ {l : List Nat} {a : Nat}, memB l a = false → a ∉ l
  | [], a, _ => by simp
  | b :: l, a, h => by
    simp only [memB, nbeq] at h
    by_cases hab : b = a
    · simp [hab] at h
    · simp only [hab, decide_false] at h
      simp only [List.mem_cons, not_or]
      exact ⟨fun e => hab e.symm, memB_false h⟩
theorem memOKb_ok : ∀ {nb : Nat} {m : Mem}, memOKb nb m = true → (∀ i b, getM m i = some b → i < nb ∧ okL (below nb) b.cells = true) ∧ uniq m
  | nb, [], _ => ⟨fun i b h => by simp [getM] at h, trivial⟩
  | nb, (j, c) :: m, h => by
    simp only [memOKb] at h
    split at h
    · rename_i h1
      split at h
      · rename_i h2
        split at h
        · rename_i h3
          obtain ⟨g1, g2⟩ := memOKb_ok h
          refine ⟨fun i b hb => ?_, h3, g2⟩
          rw [getM_cons] at hb
          by_cases hij : i = j
          · rw [if_pos hij] at hb; cases hb
            rw [nblt] at h1
            exact ⟨by rw [hij]; simpa using h1, h2⟩
          · rw [if_neg hij] at hb; exact g1 i b hb
        · cases h
      · cases h
    · cases h
theorem liveOKb_ok : ∀ {nb : Nat} {l : List (Nat × LV)}, liveOKb nb l = true → (∀ q ∈ l, q.1 < 60000) ∧ (l.map (·.1)).Nodup ∧ (∀ q ∈ l, q.2.ok (below nb) = true)
  | nb, [], _ => ⟨by simp, by simp, by simp⟩
  | nb, (i, v) :: l, h => by
    simp only [liveOKb] at h
    split at h
    · rename_i h1
      split at h
      · rename_i h2
        split at h
        · cases h
        · rename_i h3
          obtain ⟨g1, g2, g3⟩ := liveOKb_ok h
          rw [nblt] at h1
          have h1' : i < 60000 := by simpa using h1
          refine ⟨fun q hq => ?_, ?_, fun q hq => ?_⟩
          · rcases List.mem_cons.1 hq with rfl | hq
            · exact h1'
            · exact g1 q hq
          · simp only [List.map_cons, List.nodup_cons]
            exact ⟨memB_false h3, g2⟩
          · rcases List.mem_cons.1 hq with rfl | hq
            · exact h2
            · exact g3 q hq
      · cases h
    · cases h
theorem canB_ok {A : Kst} (h : canB A = true) : KstOK A := by
  unfold canB at h
  split at h
  · rename_i h1
    obtain ⟨a, b, c⟩ := liveOKb_ok h1
    obtain ⟨d, e⟩ := memOKb_ok h
    exact ⟨a, b, c, d, e⟩
  · cases h

structure KR (E : Env) (sz : Nat) (A : Kst) (a : Act) (w : World) : Prop where
  ok : KstOK A
  size : a.tmps.size = sz
  le : sz ≤ 60000
  defers : a.defers = []
  tm : ∀ q ∈ A.live, a.tmps.getD q.1 undef = q.2.den E
  rel : Rel E (getM A.mem) w

theorem KR.toR {E : Env} {sz : Nat} {A : Kst} {a : Act} {w : World} (h : KR E sz A a w) (dec : List (Option Bool)) : R E (A.st sz (fun t => a.tmps.getD t undef) dec) a w := by
  have hget : ∀ t : Nat, (∃ q ∈ A.live, q.1 = t ∧ getT (A.tm fun t => a.tmps.getD t undef) t = q.2) ∨ getT (A.tm fun t => a.tmps.getD t undef) t = (if t + 1 < 2 ^ 16 then .v (.one (.opq (a.tmps.getD t undef))) else undefL) := by
    intro t
    obtain ⟨h1, h2⟩ := getT_canT A.live (deadT 16 fun t => .v (.one (.opq (a.tmps.getD t undef)))) t h.ok.lt h.ok.nd
    by_cases hm : ∃ q ∈ A.live, q.1 = t
    · obtain ⟨q, hq, he⟩ := hm
      exact .inl ⟨q, hq, he, h1 q hq he⟩
    · refine .inr ?_
      show getT (canT A.live _) t = _
      rw [h2 fun q hq e => hm ⟨q, hq, e⟩, getT_deadT]
  refine ⟨h.size, h.le, fun t => ?_, h.defers, fun t => ?_, ⟨h.rel, h.ok.okM, h.ok.uq⟩⟩
  · show _ = (getT (A.tm _) t).den E
    rcases hget t with ⟨q, hq, he, hg⟩ | hg
    · rw [hg, ← he, h.tm q hq]
    · rw [hg]
      split
      · rfl
      · rename_i hlt
        have : ¬ t < a.tmps.size := by have := h.size; have := h.le; omega
        simp [Array.getD, this]
        rfl
  · show (getT (A.tm _) t).ok (below A.nb) = true
    rcases hget t with ⟨q, hq, he, hg⟩ | hg
    · rw [hg]; exact h.ok.okT q hq
    · rw [hg]; split <;> rfl

/-- The code goes from one known state to another. -/
def To (P : Program) (sz : Nat) (c : Code) (A : Kst) (e : Ex) (B : Kst) : Prop :=
  ∀ E a w, KR E sz A a w → ∀ Q : Exit → Act → World → Prop, (∀ E' a' w', KR E' sz B a' w' → Ext w E A.ms w' E' B.ms → Q e.to a' w') → c.wp P Q a w

def projS (slots blks : List Nat) (r : Option (Out × St)) : Option (Ex × List LV × List (Option Blk) × List (Bool × Bool)) :=
  match r with
  | some (.ex e, s) => some (e, slots.map (getT s.tm), blks.map (getM s.mem), s.cs)
  | _ => none

section
variable {P : Program} {S : FuncId → Option SumK} {z : Md} {sz : Nat}

theorem zip_getM : ∀ (blks : List Nat) (bs : List Blk) (f : Nat → Option Blk), blks.map f = bs.map some → ∀ i b, getM (blks.zip bs) i = some b → f i = some b
  | [], _, _, _, i, b, h => by simp [getM] at h
  | j :: l, [], _, he, i, b, h => by simp [getM] at h
  | j :: l, c :: bs, f, he, i, b, h => by
    simp only [List.map_cons, List.cons.injEq] at he
    rw [List.zip_cons_cons, getM_cons] at h
    by_cases hij : i = j
    · rw [if_pos hij] at h; rw [hij, he.1, h]
    · rw [if_neg hij] at h; exact zip_getM l bs f he.2 i b h

theorem zip_getT : ∀ (slots : List Nat) (vs : List LV) (f : Nat → LV), slots.map f = vs → ∀ q ∈ slots.zip vs, q.2 = f q.1
  | [], _, _, _, q, h => by simp at h
  | t :: l, [], _, he, q, h => by simp at he
  | t :: l, v :: vs, f, he, q, h => by
    simp only [List.map_cons, List.cons.injEq] at he
    rw [List.zip_cons_cons] at h
    rcases List.mem_cons.1 h with rfl | h
    · exact he.1.symm
    · exact zip_getT l vs f he.2 q h

/-- Off a run, from whatever lies in the other slots. -/
theorem To.exec (hs : Sound P S) {c : Code} {A : Kst} {e : Ex} {slots blks : List Nat} {vs : List LV} {bs : List Blk} {nbB n : Nat} {dec : List (Option Bool)} {cs : List (Bool × Bool)}
    (hrun : ∀ dead, projS slots blks (exec P S z n (.code c) (A.st sz dead dec)) = some (e, vs, bs.map some, cs)) (hcs : ∀ c ∈ cs, c.1 = c.2)
    (hB : KstOK ⟨slots.zip vs, blks.zip bs, nbB⟩) (hnb : A.nb ≤ nbB) : To P sz c A e ⟨slots.zip vs, blks.zip bs, nbB⟩ := by
  intro E a w hk Q hQ
  have hr := hk.toR dec
  have h := hrun fun t => a.tmps.getD t undef
  unfold projS at h
  split at h
  · rename_i e' s' hex
    simp only [Option.some.injEq, Prod.mk.injEq] at h
    obtain ⟨rfl, hv, hb, rfl⟩ := h
    obtain ⟨e2, q1, q2, q3, q4, q5, q6⟩ := (exec_sound (binOK P) hs.sums hs.mix hs.ng n).1 c _ _ s' hex hk.le hr.st
    cases q1
    refine q6 hcs E a w hr Q fun E' a' w' hr' hx => ?_
    have hsub := zip_getM blks bs (getM s'.mem) hb
    refine hQ E' a' w' ⟨hB, hr'.size.trans q4, hk.le, hr'.defers, fun q hq => ?_, ⟨fun i b hib => hr'.m.rel.blk i b (hsub i b hib), fun i j hi hj he => hr'.m.rel.inj i j ?_ ?_ he⟩⟩
      ⟨hnb, hx.agree, hx.os, hx.tape, hx.output, hx.size, hx.frame, fun i hi => hx.src i ?_⟩
    · rw [hr'.tm q.1, zip_getT slots vs (getT s'.tm) hv q hq]
    · obtain ⟨b, hib⟩ := Option.isSome_iff_exists.1 hi; simp [hsub i b hib]
    · obtain ⟨b, hjb⟩ := Option.isSome_iff_exists.1 hj; simp [hsub j b hjb]
    · obtain ⟨b, hib⟩ := Option.isSome_iff_exists.1 hi; simp [hsub i b hib]
  · cases h

theorem To.run (hs : Sound P S) {c : Code} {A : Kst} {e e0 : Ex} {slots blks : List Nat} {vs vs0 : List LV} {bs : List Blk} {bs0 : List (Option Blk)} {nbB n : Nat} {dec : List (Option Bool)} {cs : List (Bool × Bool)}
    (hrun : ∀ dead, projS slots blks (Go.Lr.exec P S z n (.code c) (A.st sz dead dec)) = some (e0, vs0, bs0, cs)) (he : e0 = e) (hv : vs0 = vs) (hb : bs0 = bs.map some) (hcs : ∀ c ∈ cs, c.1 = c.2)
    (hB : KstOK ⟨slots.zip vs, blks.zip bs, nbB⟩) (hnb : A.nb ≤ nbB) : To P sz c A e ⟨slots.zip vs, blks.zip bs, nbB⟩ := by
  subst he
  subst hv
  subst hb
  exact To.exec hs hrun hcs hB hnb

/-- The parts of a code. -/
def c1 : Code → Code
  | .seq a _ => a
  | .block _ a => a
  | .loop a => a
  | .cond _ a _ => a
  | c => c
def c2 : Code → Code
  | .seq _ b => b
  | .cond _ _ b => b
  | c => c
def isSeq : Code → Bool
  | .seq _ _ => true
  | _ => false
def isLoop : Code → Bool
  | .loop _ => true
  | _ => false
def blkId : Code → Option Nat
  | .block id _ => some id
  | _ => none

theorem To.seq {c : Code} {A B C : Kst} {e : Ex} (hc : isSeq c = true) (h : To P sz (c1 c) A .normal B) (k : To P sz (c2 c) B e C) : To P sz c A e C := by
  cases c <;> simp only [isSeq, Bool.false_eq_true] at hc
  intro E a w hr Q hQ
  refine wp_seq (h E a w hr _ fun E' a' w' hr' hx' => ?_)
  exact k E' a' w' hr' Q fun E'' a'' w'' hr'' hx'' => hQ E'' a'' w'' hr'' (hx'.trans hx'')

theorem To.block {c : Code} {id : Nat} {A B : Kst} {e : Ex} (hc : blkId c = some id) (h : To P sz (c1 c) A e B) (he : e = .exit id ∨ e = .normal) : To P sz c A .normal B := by
  cases c <;> simp only [blkId, reduceCtorEq] at hc
  cases hc
  intro E a w hr Q hQ
  refine wp_block (h E a w hr _ fun E' a' w' hr' hx' => ?_)
  have := hQ E' a' w' hr' hx'
  rcases he with rfl | rfl
  · simpa only [Ex.to, Exit.inBlock, if_true] using this
  · exact this

/-- The first parts of a sequence, carried out one after the other. -/
def spineL : Nat → Code → List Code
  | 0, _ => []
  | k + 1, c => c1 c :: spineL k (c2 c)
def dropC : Nat → Code → Code
  | 0, c => c
  | k + 1, c => dropC k (c2 c)
def isSpine : Nat → Code → Bool
  | 0, _ => true
  | k + 1, c => match isSeq c with
    | true => isSpine k (c2 c)
    | false => false
def execL (P : Program) (S : FuncId → Option SumK) (z : Md) (n : Nat) : List Code → St → Option (Out × St)
  | [], s => some (.ex .normal, s)
  | c :: l, s => match Go.Lr.exec P S z n (.code c) s with
    | some (.ex .normal, s1) => execL P S z n l s1
    | _ => none

theorem execL_wp (hs : Sound P S) {n : Nat} : ∀ (k : Nat) (c : Code) (s s' : St), isSpine k c = true → execL P S z n (spineL k c) s = some (.ex .normal, s') → s.sz ≤ 60000 → StOK s →
    (Good s' → Good s) ∧ StOK s' ∧ s'.sz = s.sz ∧ s.nb ≤ s'.nb ∧
      (Good s' → ∀ E a w, R E s a w → ∀ Q : Exit → Act → World → Prop, (∀ E' a' w', R E' s' a' w' → Ext w E s w' E' s' → (dropC k c).wp P Q a' w') → c.wp P Q a w)
  | 0, c, s, s', _, h, _, hok => by
    simp only [spineL, execL, Option.some.injEq, Prod.mk.injEq, true_and] at h
    subst h
    exact ⟨id, hok, rfl, Nat.le_refl _, fun _ E a w hr Q hQ => hQ E a w hr (.refl _ _ _)⟩
  | k + 1, c, s, s', hsp, h, hsz, hok => by
    simp only [isSpine] at hsp
    split at hsp
    · rename_i hc
      simp only [spineL, execL] at h
      split at h
      · rename_i s1 hex
        obtain ⟨e, q1, q2, q3, q4, q5, q6⟩ := (exec_sound (binOK P) hs.sums hs.mix hs.ng n).1 (c1 c) s _ s1 hex hsz hok
        cases q1
        obtain ⟨r2, r3, r4, r5, r6⟩ := execL_wp hs k (c2 c) s1 s' hsp h (by omega) q3
        refine ⟨fun hg => q2 (r2 hg), r3, r4.trans q4, Nat.le_trans q5 r5, fun hg E a w hr Q hQ => ?_⟩
        have hw := q6 (r2 hg) E a w hr (Exit.then ((c2 c).wp P Q) Q) fun E' a' w' hr' hx' => r6 hg E' a' w' hr' Q fun E'' a'' w'' hr'' hx'' => hQ E'' a'' w'' hr'' (hx'.trans hx'')
        cases c <;> simp only [isSeq, Bool.false_eq_true] at hc
        exact wp_seq hw
      · cases h
    · cases hsp

theorem To.spine (hs : Sound P S) {c : Code} {A C : Kst} {e : Ex} {k : Nat} {slots blks : List Nat} {vs : List LV} {bs : List Blk} {nbB n : Nat} {dec : List (Option Bool)} {cs : List (Bool × Bool)}
    (hsp : isSpine k c = true) (hrun : ∀ dead, projS slots blks (execL P S z n (spineL k c) (A.st sz dead dec)) = some (.normal, vs, bs.map some, cs)) (hcs : ∀ c ∈ cs, c.1 = c.2)
    (hB : KstOK ⟨slots.zip vs, blks.zip bs, nbB⟩) (hnb : A.nb ≤ nbB) (h : To P sz (dropC k c) ⟨slots.zip vs, blks.zip bs, nbB⟩ e C) : To P sz c A e C := by
  intro E a w hk Q hQ
  have hr := hk.toR dec
  have hh := hrun fun t => a.tmps.getD t undef
  unfold projS at hh
  split at hh
  · rename_i e' s' hex
    simp only [Option.some.injEq, Prod.mk.injEq] at hh
    obtain ⟨rfl, hv, hb, rfl⟩ := hh
    obtain ⟨q2, q3, q4, q5, q6⟩ := execL_wp (z := z) hs k c _ s' hsp hex hk.le hr.st
    refine q6 hcs E a w hr Q fun E' a' w' hr' hx => ?_
    have hsub := zip_getM blks bs (getM s'.mem) hb
    refine h E' a' w' ⟨hB, hr'.size.trans q4, hk.le, hr'.defers, fun q hq => ?_, ⟨fun i b hib => hr'.m.rel.blk i b (hsub i b hib), fun i j hi hj he => hr'.m.rel.inj i j ?_ ?_ he⟩⟩ Q
      fun E'' a'' w'' hr'' hx'' => hQ E'' a'' w'' hr'' (Ext.trans (s1 := Kst.ms ⟨slots.zip vs, blks.zip bs, nbB⟩) ⟨hnb, hx.agree, hx.os, hx.tape, hx.output, hx.size, hx.frame, fun i hi => hx.src i ?_⟩ hx'')
    · rw [hr'.tm q.1, zip_getT slots vs (getT s'.tm) hv q hq]
    · obtain ⟨b, hib⟩ := Option.isSome_iff_exists.1 hi; simp [hsub i b hib]
    · obtain ⟨b, hjb⟩ := Option.isSome_iff_exists.1 hj; simp [hsub j b hjb]
    · obtain ⟨b, hib⟩ := Option.isSome_iff_exists.1 hi; simp [hsub i b hib]
  · cases hh

theorem To.spineR (hs : Sound P S) {c : Code} {A C : Kst} {e e0 : Ex} {k : Nat} {slots blks : List Nat} {vs vs0 : List LV} {bs : List Blk} {bs0 : List (Option Blk)} {nbB n : Nat} {dec : List (Option Bool)} {cs : List (Bool × Bool)}
    (hsp : isSpine k c = true) (hrun : ∀ dead, projS slots blks (execL P S z n (spineL k c) (A.st sz dead dec)) = some (e0, vs0, bs0, cs)) (he : e0 = .normal) (hv : vs0 = vs) (hb : bs0 = bs.map some) (hcs : ∀ c ∈ cs, c.1 = c.2)
    (hB : KstOK ⟨slots.zip vs, blks.zip bs, nbB⟩) (hnb : A.nb ≤ nbB) (h : To P sz (dropC k c) ⟨slots.zip vs, blks.zip bs, nbB⟩ e C) : To P sz c A e C := by
  subst he
  subst hv
  subst hb
  exact To.spine hs hsp hrun hcs hB hnb h

/-- So many rounds of a loop. -/
def Rd (P : Program) (sz : Nat) (c : Code) (m : Nat) (A : Kst) (e : Ex) (B : Kst) : Prop :=
  ∀ E a w, KR E sz A a w → ∀ Q : Exit → Act → World → Prop, (∀ E' a' w', KR E' sz B a' w' → Ext w E A.ms w' E' B.ms → Q e.to a' w') → Code.rounds P c Q m a w

theorem Rd.last {c : Code} {A B : Kst} {e : Ex} (he : e ≠ .normal) (h : To P sz c A e B) : Rd P sz c 1 A e B := by
  intro E a w hr Q hQ
  rw [rounds_succ]
  refine h E a w hr _ fun E' a' w' hr' hx' => ?_
  have := hQ E' a' w' hr' hx'
  cases e <;> first | exact absurd rfl he | exact this

theorem Rd.next {c : Code} {A B C : Kst} {e : Ex} {m : Nat} (h : To P sz c A .normal B) (k : Rd P sz c m B e C) : Rd P sz c (m + 1) A e C := by
  intro E a w hr Q hQ
  rw [rounds_succ]
  refine h E a w hr _ fun E' a' w' hr' hx' => ?_
  exact k E' a' w' hr' Q fun E'' a'' w'' hr'' hx'' => hQ E'' a'' w'' hr'' (hx'.trans hx'')

theorem To.loop {c : Code} {A B : Kst} {e : Ex} {m : Nat} (hc : isLoop c = true) (h : Rd P sz (c1 c) m A e B) : To P sz c A e B := by
  cases c <;> simp only [isLoop, Bool.false_eq_true] at hc
  exact fun E a w hr Q hQ => wp_loop_rounds m (h E a w hr Q hQ)

theorem To.weak {c : Code} {A B C : Kst} {e : Ex} (h : To P sz c A e B) (hl : ∀ q ∈ C.live, q ∈ B.live) (hm : C.mem = B.mem) (hn : C.nb = B.nb) (hC : KstOK C) : To P sz c A e C := by
  intro E a w hr Q hQ
  refine h E a w hr Q fun E' a' w' hr' hx' => hQ E' a' w' ⟨hC, hr'.size, hr'.le, hr'.defers, fun q hq => hr'.tm q (hl q hq), by rw [hm]; exact hr'.rel⟩ ?_
  have e1 : C.ms = B.ms := by unfold Kst.ms; rw [hm, hn]
  rw [e1]; exact hx'

/-- A function's body. -/
def bodyF (P : Program) (f : FuncId) : Code :=
  match P.funcs[f]? with
  | some fn => match fn.body with
    | some c => c
    | none => .skip
  | none => .skip

/-- A whole body. -/
def argsL : Nat → List LV → List (Nat × LV)
  | _, [] => []
  | i, v :: l => (i, v) :: argsL (i + 1) l

theorem argsL_mem : ∀ (l : List LV) (i : Nat) (q : Nat × LV), q ∈ argsL i l ↔ i ≤ q.1 ∧ l[q.1 - i]? = some q.2
  | [], i, q => by simp [argsL]
  | v :: l, i, q => by
    simp only [argsL, List.mem_cons]
    rw [argsL_mem l (i + 1) q]
    constructor
    · rintro (rfl | ⟨h1, h2⟩)
      · simp
      · refine ⟨by omega, ?_⟩
        rw [show q.1 - i = (q.1 - (i + 1)) + 1 by omega]
        simpa using h2
    · rintro ⟨h1, h2⟩
      by_cases h : q.1 = i
      · left
        rw [h] at h2
        simp at h2
        rw [h2, ← h]
      · right
        refine ⟨by omega, ?_⟩
        rw [show q.1 - i = (q.1 - (i + 1)) + 1 by omega] at h2
        simpa using h2

theorem argsL_fst : ∀ (l : List LV) (i : Nat), ((argsL i l).map (·.1)).Nodup ∧ ∀ t ∈ (argsL i l).map (·.1), i ≤ t
  | [], i => by simp [argsL]
  | v :: l, i => by
    obtain ⟨h1, h2⟩ := argsL_fst l (i + 1)
    refine ⟨?_, fun t ht => ?_⟩
    · simp only [argsL, List.map_cons, List.nodup_cons]
      exact ⟨fun h => by have := h2 i h; omega, h1⟩
    · simp only [argsL, List.map_cons, List.mem_cons] at ht
      rcases ht with rfl | ht
      · exact Nat.le_refl _
      · have := h2 t ht; omega

/-- What a call comes to, in a memory of its own. -/
theorem calls_of_To {f : FuncId} {fn : Func} {c : Code} {args : List LV} {m : Mem} {nb : Nat} {B : Kst} {e : Ex} {v : LV} (hf : P.funcs[f]? = some fn) (hb : fn.body = some c)
    (hle : fn.ntmps ≤ 60000) (hargs : args.length ≤ fn.ntmps) (hA : ∀ u ∈ args, u.ok (below nb) = true) (hm : ∀ i b, getM m i = some b → i < nb ∧ okL (below nb) b.cells = true) (hu : uniq m)
    (h : To P fn.ntmps c ⟨argsL 0 args, m, nb⟩ e B) (he : e = .normal ∨ e = .ret)
    (hres : ∀ dead, resultsD P fn.results.toList (getT (B.tm dead)) B.mem = some v) (E : Env) (w : World) (hrel : Rel E (getM m) w) :
    Calls P f (args.map (LV.den E)).toArray w fun e w' => ∃ E', e = .returned (v.den E') ∧ MRel E' B.ms w' ∧ Ext w E (Kst.ms ⟨argsL 0 args, m, nb⟩) w' E' B.ms := by
  refine calls_of_wp hf hb (h E _ w ⟨⟨fun q hq => ?_, (argsL_fst args 0).1, fun q hq => ?_, hm, hu⟩, by simp; omega, hle, rfl, fun q hq => ?_, hrel⟩ _ fun E' a' w' hr' hx' => ?_)
  · have := (argsL_mem args 0 q).1 hq
    have := (List.getElem?_eq_some_iff.1 this.2).1
    omega
  · exact hA q.2 (List.mem_of_getElem? ((argsL_mem args 0 q).1 hq).2)
  · have := ((argsL_mem args 0 q).1 hq).2
    simp only [Nat.sub_zero] at this
    have hlt := (List.getElem?_eq_some_iff.1 this).1
    simp only [Array.getD_eq_getD_getElem?, Array.getElem?_append, List.size_toArray, List.length_map]
    rw [if_pos hlt]
    simp [this]
  · have hR := hr'.toR []
    have hpost : bodyPost P fn (fun e w' => ∃ E', e = .returned (v.den E') ∧ MRel E' B.ms w' ∧ Ext w E (Kst.ms ⟨argsL 0 args, m, nb⟩) w' E' B.ms) .ret a' w' :=
      ⟨hr'.defers, v.den E', resultsD_spec hR.m.rel hR.tm (hres _), E', rfl, ⟨hr'.rel, hr'.ok.okM, hr'.ok.uq⟩, hx'⟩
    rcases he with rfl | rfl
    · exact hpost
    · exact hpost
end

/-- A call of plain values. -/
theorem calls_pure {P : Program} {f : FuncId} {fn : Func} {c : Code} {args : List LV} {B : Kst} {e : Ex} {v : LV} (hf : P.funcs[f]? = some fn) (hb : fn.body = some c)
    (hle : fn.ntmps ≤ 60000) (hargs : args.length ≤ fn.ntmps) (ha : plainVs args = true) (h : To P fn.ntmps c ⟨argsL 0 args, [], 0⟩ e B) (he : e = .normal ∨ e = .ret)
    (hres : ∀ dead, resultsD P fn.results.toList (getT (B.tm dead)) B.mem = some v) (hv : v.ok noP = true) (w : World) :
    Calls P f (args.map (LV.den E0)).toArray w fun e w' => e = .returned (v.den E0) ∧ Below w.heap.size w w' := by
  have ha' := plainVs_iff.1 ha
  refine (calls_of_To (m := []) (nb := 0) hf hb hle hargs (fun u hu => LV.ok_mono noP_below (ha' u hu)) (fun i b h => by simp [getM] at h) trivial h he hres E0 w ⟨fun i b h => by simp [getM] at h, fun i j h => by simp [getM] at h⟩).mono ?_
  rintro e w' ⟨E', rfl, _, hx⟩
  exact ⟨by rw [den_noP hv], hx.os, hx.tape, hx.output, hx.size, fun k hk => hx.frame k hk fun i hi => by simp [getM, Kst.ms] at hi⟩
end Go.Lr

/- The local evaluator: summaries of functions that are handed slices of numbers. -/
namespace Go.Lr
open Go.RowKit

/-- A call in a memory of its own: what it leaves of it; nothing else that was there has turned. -/
structure Lcl (E : Env) (m m' : Mem) (w w' : World) : Prop where
  os : w'.os = w.os
  tape : w'.tape = w.tape
  output : w'.output = w.output
  size : w.heap.size ≤ w'.heap.size
  frame : ∀ b, b < w.heap.size → (∀ i, (getM m i).isSome → (E i).1 ≠ b) → w'.heap[b]? = w.heap[b]?
  blk : ∀ i b, getM m' i = some b → blkAt E i b w'

section
variable {P : Program} {S : FuncId → Option SumK} {z : Md}

theorem lcl_of {E E' : Env} {A B : St} {m m' : Mem} {w w' : World} (hA : A.mem = m) (hr : MRel E' B w') (hx : Ext w E A w' E' B)
    (hg : ∀ i b, getM m' i = some b → getM B.mem i = some b ∧ i < A.nb ∧ okL (below A.nb) b.cells = true) : Lcl E m m' w w' := by
  subst hA
  refine ⟨hx.os, hx.tape, hx.output, hx.size, hx.frame, fun i b hib => ?_⟩
  obtain ⟨h1, h2, h3⟩ := hg i b hib
  obtain ⟨r, g1, g2, g3⟩ := hr.rel.blk i b h1
  rw [hx.agree i h2] at g1 g3
  refine ⟨r, ?_, g2, g3⟩
  rw [g1, denL_congr (E := E) (E' := E') (p := below A.nb) (fun j hj => hx.agree j (by simpa [below, nblt] using hj)) h3]

/-- Off a run. -/
theorem lcl_of_run (hs : Sound P S) {n : Nat} {f : FuncId} {args : List LV} {m m' m2 : Mem} {nb nb' : Nat} {dec : List (Option Bool)} {v : LV} {cs : List (Bool × Bool)} (hrun : runF P S z n f args m nb dec = some (v, m2, nb', cs))
    (hg : ∀ i b, getM m' i = some b → getM m2 i = some b ∧ i < nb ∧ okL (below nb) b.cells = true) (hc : ∀ c ∈ cs, c.1 = c.2) (hm : memOKb nb m = true) (ha : ∀ u ∈ args, u.ok (below nb) = true) (hv : v.ok noP = true)
    (E : Env) (w : World) (hrel : Rel E (getM m) w) : Calls P f (args.map (LV.den E)).toArray w fun e w' => e = .returned (v.den E0) ∧ Lcl E m m' w w' := by
  obtain ⟨s', h1, h2, h3, h4⟩ := runF_body hrun
  obtain ⟨k1, k2⟩ := memOKb_ok hm
  obtain ⟨v', b1, b2, b3, b4, b5, b6, b7, b8⟩ := (exec_sound (binOK P) hs.sums hs.mix hs.ng n).2.2.2 f args _ _ s' h1 k1 k2 ha
  cases b1
  refine (b8 (by rw [Good, h4]; exact hc) E w ⟨hrel, k1, k2⟩).mono ?_
  rintro e w' ⟨E', rfl, hmr, hx⟩
  exact ⟨by rw [den_noP hv], lcl_of rfl hmr hx fun i b hib => by rw [h2]; exact hg i b hib⟩

/-- Off a walk in pieces. -/
theorem lcl_of_To {f : FuncId} {fn : Func} {c : Code} {args : List LV} {m m' : Mem} {nb : Nat} {B : Kst} {e : Ex} {v : LV} (hf : P.funcs[f]? = some fn) (hb : fn.body = some c)
    (hle : fn.ntmps ≤ 60000) (hargs : args.length ≤ fn.ntmps) (hA : ∀ u ∈ args, u.ok (below nb) = true) (hm : memOKb nb m = true)
    (h : To P fn.ntmps c ⟨argsL 0 args, m, nb⟩ e B) (he : e = .normal ∨ e = .ret)
    (hres : ∀ dead, resultsD P fn.results.toList (getT (B.tm dead)) B.mem = some v) (hv : v.ok noP = true)
    (hg : ∀ i b, getM m' i = some b → getM B.mem i = some b ∧ i < nb ∧ okL (below nb) b.cells = true)
    (E : Env) (w : World) (hrel : Rel E (getM m) w) : Calls P f (args.map (LV.den E)).toArray w fun e w' => e = .returned (v.den E0) ∧ Lcl E m m' w w' := by
  obtain ⟨k1, k2⟩ := memOKb_ok hm
  refine (calls_of_To hf hb hle hargs hA k1 k2 h he hres E w hrel).mono ?_
  rintro e w' ⟨E', rfl, hmr, hx⟩
  exact ⟨by rw [den_noP hv], lcl_of rfl hmr hx hg⟩

/-- Numbers in cells. -/
def getInts : List At → Nat → Option (List Int)
  | _, 0 => some []
  | .int .i64 x :: l, n + 1 => match getInts l n with
    | some r => some (x :: r)
    | none => none
  | _, _ + 1 => none

def toI : At → Int
  | .int .i64 x => x
  | _ => 0
def isI64 : At → Bool
  | .int .i64 _ => true
  | _ => false
def intL (l : List At) : List Int := l.map toI
def isIntL (l : List At) : Bool := l.all isI64

/-- So many numbers lie there. -/
def IntsAt (l : List At) (o : Nat) (xs : List Int) : Prop := ∀ j (h : j < xs.length), atL l (o + j) = some (.int .i64 xs[j])

theorem atL_eq : ∀ (l : List At) (n : Nat), atL l n = l[n]?
  | [], n => by simp [atL]
  | a :: l, 0 => by simp [atL]
  | a :: l, n + 1 => by simp [atL, atL_eq l n]
theorem atL_drop (l : List At) (o n : Nat) : atL (l.drop o) n = atL l (o + n) := by rw [atL_eq, atL_eq, List.getElem?_drop]

theorem getInts_at : ∀ (n : Nat) (l : List At) (xs : List Int), getInts l n = some xs → xs.length = n ∧ IntsAt l 0 xs
  | 0, l, xs, h => by simp only [getInts] at h; cases h; exact ⟨rfl, fun j hj => by simp at hj⟩
  | n + 1, l, xs, h => by
    unfold getInts at h
    split at h
    · rename_i h' ; cases h'
    · rename_i x l' n' hn
      cases hn
      split at h
      · rename_i r hr
        cases h
        obtain ⟨h1, h2⟩ := getInts_at n l' r hr
        refine ⟨by simp [h1], fun j hj => ?_⟩
        cases j with
        | zero => rfl
        | succ j => have := h2 j (by simpa using hj); simpa [atL] using this
      · cases h
    · cases h
theorem IntsAt.drop {l : List At} {o : Nat} {xs : List Int} (h : IntsAt (l.drop o) 0 xs) : IntsAt l o xs := fun j hj => by
  have := h j hj
  rw [atL_drop] at this
  simpa using this
theorem intL_len (l : List At) : (intL l).length = l.length := by simp [intL]
theorem isIntL_at (l : List At) (h : isIntL l = true) : IntsAt l 0 (intL l) := by
  intro j hj
  rw [atL_eq, Nat.zero_add]
  have hj' : j < l.length := by simpa [intL] using hj
  rw [List.getElem?_eq_getElem hj']
  have := List.all_eq_true.1 h l[j] (List.getElem_mem hj')
  simp only [intL, List.getElem_map]
  generalize l[j] = a at this ⊢
  unfold isI64 at this
  split at this
  · rfl
  · cases this
theorem intAt_of {l : List At} {o : Nat} {x : Int} (h : atL l o = some (.int .i64 x)) : intAt l o = x ∧ isIntAt .i64 l o = true := by
  unfold intAt isIntAt; rw [h]; exact ⟨rfl, rfl⟩

/-- An argument, seen by a summary. -/
inductive AV where
  | pl (v : LV)
  | ints (xs : List Int)

/-- A slice's block. -/
def slB : LV → Option Nat
  | .v (.one (.sl b _ _ _)) => some b
  | .v (.one (.slu b _)) => some b
  | .v (.one (.slx b _ _ _)) => some b
  | _ => none
def isNilS : LV → Bool
  | .v (.one .nilsl) => true
  | _ => false

def rdA : List LV → Option (List Nat)
  | [] => some []
  | v :: l => match slB v with
    | some b => match rdA l with
      | some r => some (b :: r)
      | none => none
    | none => match v.ok noP with
      | true => rdA l
      | false => none

/-- The numbers of a slice (elements of es cells each). -/
def slInts (es : Nat) (s : LV) (k : Blk) : Option (List Int × List (Bool × Bool)) :=
  match s with
  | .v (.one (.sl _ o n c)) => match Nat.ble n c, getInts (k.cells.drop o) (n * es), okL noP k.cells with
    | true, some xs, true => some (xs, [])
    | _, _, _ => none
  | .v (.one (.slu _ n)) => match Nat.beq k.es es, Nat.ble 1 es with
    | true, true => some (intL (k.cells.take (n * es)), [(isIntL (k.cells.take (n * es)) && (okL noP k.cells && decide (n * es ≤ k.cells.length)), true)])
    | _, _ => none
  | .v (.one (.slx _ o n c)) => some (intL ((k.cells.drop o).take (n * es)), [(isIntL ((k.cells.drop o).take (n * es)) && (okL noP k.cells && (decide (o + n * es ≤ k.cells.length) && decide (n ≤ c))), true)])
  | _ => none

def avA (es : Nat) : List LV → List Blk → Option (List AV × List (Bool × Bool))
  | [], _ => some ([], [])
  | v :: l, bs => match slB v with
    | some _ => match bs with
      | k :: bs => match slInts es v k with
        | some (xs, cs) => match avA es l bs with
          | some (r, cs') => some (.ints xs :: r, cs ++ cs')
          | none => none
        | none => none
      | [] => none
    | none => match isNilS v with
      | true => match avA es l bs with
        | some (r, cs') => some (.ints [] :: r, cs')
        | none => none
      | false => match avA es l bs with
        | some (r, cs') => some (.pl v :: r, cs')
        | none => none

/-- A flag, plain values, slices of numbers (of es cells each). -/
def acSum (ty : TypeId) (es : Nat) (F : List AV → Bool → Option (LV × Bool × List (Bool × Bool))) : Sum := fun args =>
  match args with
  | .v (.one (.ptr c 0)) :: rest => match rdA rest with
    | some bl => match memB bl c with
      | false => some ⟨bl, [c], fun rdB wB _ => match wB with
        | [⟨t, (0, 0), 0, [.bool h]⟩] => match Nat.beq t ty with
          | true => match avA es rest rdB with
            | some (avs, cs0) => match F avs h with
              | some (v, h', cs) => match v.ok noP with
                | true => some ⟨v, [flag ty h'], [], cs0 ++ cs⟩
                | false => none
              | none => none
            | none => none
          | false => none
        | _ => none⟩
      | true => none
    | none => none
  | _ => none

theorem post_lcl {w w' : World} {E : Env} {g : Nat → Option Blk} {nb c : Nat} {v : LV} {ty : TypeId} {h h' : Bool} (hr : Rel E g w) (hc : g c = some (flag ty h))
    (hos : w'.os = w.os) (htape : w'.tape = w.tape) (hout : w'.output = w.output) (hsz : w.heap.size ≤ w'.heap.size)
    (hthis : blkAt E c (flag ty h') w') (hrest : ∀ i b, i ≠ c → g i = some b → blkAt E i b w') (hfr : ∀ b, b < w.heap.size → (∀ i, (g i).isSome → (E i).1 ≠ b) → w'.heap[b]? = w.heap[b]?) :
    Post w E g nb ⟨v, [(c, some (flag ty h'))], [], [], []⟩ E w' := by
  refine ⟨fun _ _ => rfl, ⟨fun i b hb => ?_, fun i j hi hj he => ?_⟩, hos, htape, hout, hsz, hfr, fun i h1 h2 => by simp at h2; omega⟩
  · simp only [nwG, wrG] at hb
    by_cases hi : i = c
    · subst hi
      rw [if_pos rfl] at hb
      cases hb
      exact hthis
    · rw [if_neg hi] at hb
      exact hrest i b hi hb
  · simp only [nwG, wrG] at hi hj
    refine hr.inj i j ?_ ?_ he
    · by_cases h1 : i = c
      · rw [h1]; simp [hc]
      · simpa [if_neg h1] using hi
    · by_cases h1 : j = c
      · rw [h1]; simp [hc]
      · simpa [if_neg h1] using hj

/-- A slice, told by its numbers: of the local block 1. -/
def SlAt (es : Nat) (k : Blk) (o n : Nat) (xs : List Int) : Prop := xs.length = n * es ∧ IntsAt k.cells o xs ∧ okL noP k.cells = true

theorem blkAt_ren {E E' : Env} {i j : Nat} {b : Blk} {w : World} (hb : okL noP b.cells = true) (he : E' j = E i) (h : blkAt E i b w) : blkAt E' j b w := by
  obtain ⟨r, h1, h2, h3⟩ := h
  refine ⟨r, ?_, h2, fun hne => by rw [he]; exact h3 hne⟩
  rw [he, h1, denA_noP (E := E') hb, denA_noP (E := E) hb]

/-- From a local call to the summary's: the blocks' local numbers. -/
theorem call_up {f : FuncId} (ho : Own P f) {args args' : List LV} {m m' : Mem} {ren : Nat → Nat} {g : Nat → Option Blk} {nb c : Nat} {ty : TypeId} {h h' : Bool} {v : LV} {E E1 : Env} {w : World}
    (hE : ∀ i, E1 i = E (ren i)) (hrel : Rel E g w) (hc : g c = some (flag ty h)) (h0 : getM m' 0 = some (flag ty h')) (hren0 : ren 0 = c) (hm : ∀ i b, getM m i = some b → g (ren i) = some b)
    (hm' : ∀ i b, i ≠ 0 → getM m i = some b → getM m' i = some b) (hok : ∀ i b, getM m i = some b → okL noP b.cells = true)
    (hargs : args.map (LV.den E) = args'.map (LV.den E1)) (hv : v.ok noP = true)
    (hcall : Calls P f (args'.map (LV.den E1)).toArray w fun e w' => e = .returned (v.den E0) ∧ Lcl E1 m m' w w') :
    CallOK P f (args.map (LV.den E)).toArray w fun u w' => ∃ E', u = v.den E' ∧ Post w E g nb ⟨v, [(c, some (flag ty h'))], [], [], []⟩ E' w' := by
  obtain ⟨fn, f1, f2, f3⟩ := ho
  rw [hargs]
  refine .inl ⟨fn, f1, f2, f3, hcall.mono ?_⟩
  rintro e w' ⟨rfl, hl⟩
  have hfr : ∀ b, b < w.heap.size → (∀ i, (getM m i).isSome → (E1 i).1 ≠ b) → w'.heap[b]? = w.heap[b]? := hl.frame
  refine ⟨_, rfl, E, (den_noP hv).symm, post_lcl hrel hc hl.os hl.tape hl.output hl.size ?_ (fun i b hi hib => ?_) fun b hb hne => hfr b hb fun i hi => ?_⟩
  · exact blkAt_ren (E := E1) (i := 0) rfl (by rw [hE, hren0]) (hl.blk 0 _ h0)
  · by_cases hex : ∃ j, (getM m j).isSome ∧ ren j = i
    · obtain ⟨j, hj, rfl⟩ := hex
      obtain ⟨b', hb'⟩ := Option.isSome_iff_exists.1 hj
      have : b' = b := by have := hm j b' hb'; rw [hib] at this; cases this; rfl
      subst this
      have hj0 : j ≠ 0 := fun e => hi (by rw [e, hren0])
      exact blkAt_ren (E := E1) (i := j) (hok j _ hb') (hE j).symm (hl.blk j _ (hm' j _ hj0 hb'))
    · obtain ⟨r, g1, g2, g3⟩ := hrel.blk i b hib
      refine ⟨r, ?_, g2, g3⟩
      rw [hfr _ (Array.getElem?_eq_some_iff.1 g1).1 fun j hj e => hex ⟨j, hj, ?_⟩]
      · exact g1
      · obtain ⟨b', hb'⟩ := Option.isSome_iff_exists.1 hj
        rw [hE] at e
        exact hrel.inj _ _ (by rw [hm j b' hb']; rfl) (by rw [hib]; rfl) e
  · obtain ⟨b', hb'⟩ := Option.isSome_iff_exists.1 hi
    rw [hE]
    exact hne _ (by rw [hm i b' hb']; rfl)

theorem rel2 {E E1 : Env} {g : Nat → Option Blk} {w : World} {c b : Nat} {kc k : Blk} (hrel : Rel E g w) (hkc : g c = some kc) (hk : g b = some k) (hcb : c ≠ b) (o0 : okL noP kc.cells = true) (o1 : okL noP k.cells = true)
    (h0 : E1 0 = E c) (h1 : E1 1 = E b) : Rel E1 (getM [(0, kc), (1, k)]) w := by
  refine ⟨fun i q hq => ?_, fun i j hi hj he => ?_⟩
  · rw [getM_cons] at hq
    by_cases hi : i = 0
    · subst hi; rw [if_pos rfl] at hq; cases hq; exact blkAt_ren o0 h0 (hrel.blk c _ hkc)
    · rw [if_neg hi, getM_cons] at hq
      by_cases hi1 : i = 1
      · subst hi1; rw [if_pos rfl] at hq; cases hq; exact blkAt_ren o1 h1 (hrel.blk b _ hk)
      · rw [if_neg hi1] at hq; simp [getM] at hq
  · have two : ∀ i, (getM [(0, kc), (1, k)] i).isSome → i = 0 ∨ i = 1 := by
      intro i hi
      rw [getM_cons] at hi
      by_cases h0 : i = 0
      · exact .inl h0
      · rw [if_neg h0, getM_cons] at hi
        by_cases h1 : i = 1
        · exact .inr h1
        · rw [if_neg h1] at hi; simp [getM] at hi
    rcases two i hi with rfl | rfl <;> rcases two j hj with rfl | rfl
    · rfl
    · rw [h0, h1] at he; exact absurd (hrel.inj c b (by simp [hkc]) (by simp [hk]) he) hcb
    · rw [h0, h1] at he; exact absurd (hrel.inj b c (by simp [hk]) (by simp [hkc]) he).symm hcb
    · rfl
theorem get2 {kc k q : Blk} {i : Nat} (hq : getM [(0, kc), (1, k)] i = some q) : (i = 0 ∧ q = kc) ∨ (i = 1 ∧ q = k) := by
  rw [getM_cons] at hq
  by_cases hi : i = 0
  · subst hi; rw [if_pos rfl] at hq; cases hq; exact .inl ⟨rfl, rfl⟩
  · rw [if_neg hi, getM_cons] at hq
    by_cases hi1 : i = 1
    · subst hi1; rw [if_pos rfl] at hq; cases hq; exact .inr ⟨rfl, rfl⟩
    · rw [if_neg hi1] at hq; simp [getM] at hq
theorem get1 {kc q : Blk} {i : Nat} (hq : getM [(0, kc)] i = some q) : i = 0 ∧ q = kc := by
  rw [getM_cons] at hq
  by_cases hi : i = 0
  · subst hi; rw [if_pos rfl] at hq; cases hq; exact ⟨rfl, rfl⟩
  · rw [if_neg hi] at hq; simp [getM] at hq
theorem rel1 {E E1 : Env} {g : Nat → Option Blk} {w : World} {c : Nat} {kc : Blk} (hrel : Rel E g w) (hkc : g c = some kc) (o0 : okL noP kc.cells = true) (h0 : E1 0 = E c) : Rel E1 (getM [(0, kc)]) w := by
  refine ⟨fun i q hq => ?_, fun i j hi hj he => ?_⟩
  · obtain ⟨rfl, rfl⟩ := get1 hq; exact blkAt_ren o0 h0 (hrel.blk c _ hkc)
  · obtain ⟨q, hq⟩ := Option.isSome_iff_exists.1 hi
    obtain ⟨q', hq'⟩ := Option.isSome_iff_exists.1 hj
    rw [(get1 hq).1, (get1 hq').1]

/-- Two numbers' worth of a map. -/
def ren2 (a b : Nat) : Nat → Nat
  | 0 => a
  | _ => b

theorem liveAll_cons {g : Nat → Option Blk} {b : Nat} {l : List Nat} {r : List Blk} (h : liveAll g (b :: l) = some r) : ∃ k r', g b = some k ∧ liveAll g l = some r' ∧ r = k :: r' := by
  simp only [liveAll] at h
  split at h
  · rename_i k r' hk hr; cases h; exact ⟨k, r', hk, hr, rfl⟩
  · cases h
theorem liveAll_nil {g : Nat → Option Blk} {r : List Blk} (h : liveAll g [] = some r) : r = [] := by simp only [liveAll] at h; cases h; rfl

theorem take_ints {l : List At} {o m : Nat} (h : isIntL ((l.drop o).take m) = true) (hl : o + m ≤ l.length) : (intL ((l.drop o).take m)).length = m ∧ IntsAt l o (intL ((l.drop o).take m)) := by
  have e : (intL ((l.drop o).take m)).length = m := by rw [intL_len, List.length_take, List.length_drop]; omega
  refine ⟨e, fun j hj => ?_⟩
  have h1 := isIntL_at _ h j hj
  rw [e] at hj
  rw [atL_eq, Nat.zero_add, List.getElem?_take, if_pos (by omega), List.getElem?_drop, ← atL_eq] at h1
  exact h1

/-- A slice's argument, seen from the local block j. -/
theorem slInts_loc {es b : Nat} {s : LV} {k : Blk} {xs : List Int} {cs : List (Bool × Bool)} {E : Env} {w : World} (h : slInts es s k = some (xs, cs)) (hc : ∀ c ∈ cs, c.1 = c.2) (hb : slB s = some b) (hk : blkAt E b k w) :
    ∃ o n c, SlAt es k o n xs ∧ n ≤ c ∧ ∀ (E' : Env) (j : Nat), E' j = E b → s.den E = (LV.v (.one (.slx j o n c))).den E' := by
  unfold slInts at h
  split at h
  · rename_i b' o n c
    cases hb
    split at h
    · rename_i hle hx hok
      cases h
      obtain ⟨h1, h2⟩ := getInts_at _ _ _ hx
      exact ⟨o, n, c, ⟨h1, h2.drop, hok⟩, Nat.le_of_ble_eq_true hle, fun E' j hj => by simp only [LV.den, V1.den, At.den, hj]⟩
    · cases h
  · rename_i b' n
    cases hb
    split at h
    · rename_i he h1
      cases h
      rw [nbeq] at he
      have he' : k.es = es := by simpa using he
      have h1' : 1 ≤ es := Nat.le_of_ble_eq_true h1
      have := hc _ (List.mem_singleton.2 rfl)
      simp only [Bool.and_eq_true, decide_eq_true_eq] at this
      obtain ⟨a1, a2, a3⟩ := this
      have ht := take_ints (l := k.cells) (o := 0) (m := n * es) (by simpa using a1) (by omega)
      simp only [List.drop_zero] at ht
      obtain ⟨r, g1, g2, g3⟩ := hk
      have g4 := g3 (by omega)
      have hle : n ≤ (E b).2 := by
        refine Nat.le_of_mul_le_mul_right (c := es) ?_ (by omega)
        rw [he'] at g4
        omega
      exact ⟨0, n, (E b).2, ⟨ht.1, ht.2, a2⟩, hle, fun E' j hj => by simp only [LV.den, V1.den, At.den, hj]⟩
    · cases h
  · rename_i b' o n c
    cases hb
    cases h
    have := hc _ (List.mem_singleton.2 rfl)
    simp only [Bool.and_eq_true, decide_eq_true_eq] at this
    obtain ⟨a1, a2, a3, a4⟩ := this
    have ht := take_ints a1 a3
    exact ⟨o, n, c, ⟨ht.1, ht.2, a2⟩, a4, fun E' j hj => by simp only [LV.den, V1.den, At.den, hj]⟩
  · cases h

theorem shape1 {es : Nat} {xs : List Int} {g : Nat → Option Blk} : ∀ (pre : List LV) (rest : List LV) (rdB : List Blk) (bl : List Nat) (cs0 : List (Bool × Bool)), rdA rest = some bl → liveAll g bl = some rdB → avA es rest rdB = some (pre.map AV.pl ++ [.ints xs], cs0) → (∀ c ∈ cs0, c.1 = c.2) →
  plainVs pre = true ∧ ((∃ s b k cs, rest = pre ++ [s] ∧ slB s = some b ∧ bl = [b] ∧ g b = some k ∧ slInts es s k = some (xs, cs) ∧ ∀ c ∈ cs, c.1 = c.2) ∨ (rest = pre ++ [.v (.one .nilsl)] ∧ xs = [])) := by
  intro pre
  induction pre with
  | nil =>
    intro rest rdB bl cs0 h1 h2 h3 h4
    refine ⟨rfl, ?_⟩
    cases rest with
    | nil => simp [avA] at h3
    | cons s rest =>
      simp only [avA, List.map_nil, List.nil_append] at h3
      split at h3
      · rename_i b hsl
        simp only [rdA, hsl] at h1
        split at h1
        · rename_i r hr1
          cases h1
          obtain ⟨k, r', hk, hr', rfl⟩ := liveAll_cons h2
          simp only at h3
          split at h3
          · rename_i xs' cs1 hx
            split at h3
            · rename_i r2 cs2 hav
              simp only [Option.some.injEq, Prod.mk.injEq, List.cons.injEq, AV.ints.injEq] at h3
              obtain ⟨⟨rfl, hnil⟩, hcs⟩ := h3
              subst hnil
              subst hcs
              cases rest with
              | nil =>
                simp only [rdA] at hr1
                cases hr1
                exact .inl ⟨s, b, k, cs1, rfl, hsl, rfl, hk, hx, fun c hcm => h4 c (List.mem_append_left _ hcm)⟩
              | cons s2 rest2 =>
                exfalso
                simp only [avA] at hav
                (repeat' split at hav) <;> simp at hav
            · cases h3
          · cases h3
        · cases h1
      · rename_i hsl
        split at h3
        · rename_i hnil
          split at h3
          · rename_i r2 cs2 hav
            simp only [Option.some.injEq, Prod.mk.injEq, List.cons.injEq, AV.ints.injEq] at h3
            obtain ⟨⟨hx, hn2⟩, hcs⟩ := h3
            subst hn2
            cases rest with
            | nil =>
              refine .inr ⟨?_, hx.symm⟩
              unfold isNilS at hnil
              split at hnil
              · rfl
              · cases hnil
            | cons s2 rest2 =>
              exfalso
              simp only [avA] at hav
              (repeat' split at hav) <;> simp at hav
          · cases h3
        · split at h3 <;> simp at h3
  | cons q pre ih =>
    intro rest rdB bl cs0 h1 h2 h3 h4
    cases rest with
    | nil => simp [avA] at h3
    | cons s rest =>
      simp only [avA, List.map_cons, List.cons_append] at h3
      split at h3
      · rename_i b hsl
        (repeat' split at h3) <;> simp at h3
      · rename_i hsl
        split at h3
        · (repeat' split at h3) <;> simp at h3
        · split at h3
          · rename_i r2 cs2 hav
            simp only [Option.some.injEq, Prod.mk.injEq, List.cons.injEq, AV.pl.injEq] at h3
            obtain ⟨⟨rfl, hr2⟩, rfl⟩ := h3
            simp only [rdA, hsl] at h1
            split at h1
            · rename_i hq
              rw [hr2] at hav
              obtain ⟨i1, i2⟩ := ih rest rdB bl cs2 h1 h2 hav h4
              refine ⟨by simp only [plainVs, hq, i1], ?_⟩
              rcases i2 with ⟨s', b, k, cs', e1, e2⟩ | ⟨e1, e2⟩
              · exact .inl ⟨s', b, k, cs', by rw [e1]; rfl, e2⟩
              · exact .inr ⟨by rw [e1]; rfl, e2⟩
            · cases h1
          · cases h3

/-- One slice, the last argument. -/
theorem acSum1_ok {f : FuncId} (ho : Own P f) {ty : TypeId} {es : Nat} {F : List AV → Bool → Option (LV × Bool × List (Bool × Bool))}
    (hF1 : ∀ avs hb r, F avs hb = some r → ∃ (pre : List LV) (xs : List Int), avs = pre.map AV.pl ++ [.ints xs])
    (h : ∀ (pre : List LV) (xs : List Int) (hb : Bool) (v : LV) (h' : Bool) (cs : List (Bool × Bool)), F (pre.map AV.pl ++ [.ints xs]) hb = some (v, h', cs) → (∀ c ∈ cs, c.1 = c.2) → plainVs pre = true → v.ok noP = true →
      (∀ (k : Blk) (o n c : Nat), SlAt es k o n xs → n ≤ c → ∀ (E : Env) (w : World), Rel E (getM [(0, flag ty hb), (1, k)]) w →
        Calls P f ((A0 :: (pre ++ [.v (.one (.slx 1 o n c))])).map (LV.den E)).toArray w fun e w' => e = .returned (v.den E0) ∧ Lcl E [(0, flag ty hb), (1, k)] [(0, flag ty h'), (1, k)] w w') ∧
      (xs = [] → ∀ (E : Env) (w : World), Rel E (getM [(0, flag ty hb)]) w →
        Calls P f ((A0 :: (pre ++ [.v (.one .nilsl)])).map (LV.den E)).toArray w fun e w' => e = .returned (v.den E0) ∧ Lcl E [(0, flag ty hb)] [(0, flag ty h')] w w')) : SumOK P f (acSum ty es F) := by
  intro args t g nb p rdB wrB ans ws E w hs hr hw _ hgo hz hc hrel hg hargs hn
  unfold acSum at hs
  split at hs
  · rename_i c rest
    split at hs
    · rename_i bl hbl
      split at hs
      · rename_i hmem
        cases hs
        simp only at hgo hw hr
        split at hgo
        · rename_i t' hb
          split at hgo
          · rename_i hty
            rw [nbeq] at hty
            have hty' : t' = ty := by simpa using hty
            subst hty'
            split at hgo
            · rename_i avs cs0 has
              split at hgo
              · rename_i v h' cs hF
                split at hgo
                · rename_i hv
                  cases hgo
                  obtain ⟨kc, r', hkc, hr', hrr⟩ := liveAll_cons hw
                  cases liveAll_nil hr'
                  cases hrr
                  simp only [zipW] at hz
                  cases hz
                  simp only at hc ⊢
                  have hc0 : ∀ c ∈ cs0, c.1 = c.2 := fun c hcm => hc c (List.mem_append_left _ hcm)
                  have hc1 : ∀ c ∈ cs, c.1 = c.2 := fun c hcm => hc c (List.mem_append_right _ hcm)
                  obtain ⟨pre, xs, rfl⟩ := hF1 _ _ _ hF
                  obtain ⟨hp, hcase⟩ := shape1 (es := es) (xs := xs) (g := g) pre rest rdB bl cs0 hbl hr has hc0
                  obtain ⟨H1, H2⟩ := h pre xs hb v h' cs hF hc1 hp hv
                  have hpre := plainVs_iff.1 hp
                  have hf0 : (⟨t', (0, 0), 0, [.bool hb]⟩ : Blk) = flag t' hb := rfl
                  rw [hf0] at hkc
                  rcases hcase with ⟨s, b, k, csl, rfl, hsl, rfl, hk, hsi, hcl0⟩ | ⟨rfl, hx⟩
                  · have hcb : c ≠ b := fun e => by rw [e] at hmem; simp [memB] at hmem
                    obtain ⟨o, n, cc, hsa, hncc, hden⟩ := slInts_loc hsi hcl0 hsl (hrel.blk b k hk)
                    generalize hE1 : (fun i => E (ren2 c b i)) = E1
                    have hE : ∀ i, E1 i = E (ren2 c b i) := fun i => by rw [← hE1]
                    have hcl := H1 k o n cc hsa hncc E1 w (rel2 hrel hkc hk hcb rfl hsa.2.2 (hE 0) (hE 1))
                    refine call_up ho hE hrel hkc rfl rfl (fun i q hq => ?_) (fun i q h0 hq => ?_) (fun i q hq => ?_) ?_ hv hcl
                    · rcases get2 hq with ⟨rfl, rfl⟩ | ⟨rfl, rfl⟩
                      · exact hkc
                      · exact hk
                    · rw [getM_cons, if_neg h0] at hq ⊢; exact hq
                    · rcases get2 hq with ⟨rfl, rfl⟩ | ⟨rfl, rfl⟩
                      · rfl
                      · exact hsa.2.2
                    · simp only [List.map_cons, List.map_append, List.map_nil]
                      rw [hden E1 1 (hE 1), denL_noP hpre, denL_noP (E := E1) hpre]
                      congr 1
                      show LV.den E (.v (.one (.ptr c 0))) = LV.den E1 (.v (.one (.ptr 0 0)))
                      simp only [LV.den, V1.den, At.den, hE, ren2]
                  · generalize hE1 : (fun _ : Nat => E c) = E1
                    have hE : ∀ i, E1 i = E ((fun _ => c) i) := fun i => by rw [← hE1]
                    have hcl := H2 hx E1 w (rel1 hrel hkc rfl (hE 0))
                    refine call_up ho hE hrel hkc rfl rfl (fun i q hq => ?_) (fun i q h0 hq => ?_) (fun i q hq => ?_) ?_ hv hcl
                    · obtain ⟨rfl, rfl⟩ := get1 hq; exact hkc
                    · exact absurd (get1 hq).1 h0
                    · obtain ⟨rfl, rfl⟩ := get1 hq; rfl
                    · simp only [List.map_cons, List.map_append, List.map_nil]
                      rw [denL_noP hpre, denL_noP (E := E1) hpre]
                      congr 1
                      show LV.den E (.v (.one (.ptr c 0))) = LV.den E1 (.v (.one (.ptr 0 0)))
                      simp only [LV.den, V1.den, At.den, hE]
                · cases hgo
              · cases hgo
            · cases hgo
          · cases hgo
        · cases hgo
      · cases hs
    · cases hs
  · cases hs

end
end Go.Lr

/- The local evaluator: summaries of functions that are handed two slices of numbers. -/
namespace Go.Lr
open Go.RowKit

section
variable {P : Program} {S : FuncId → Option SumK} {z : Md}

/-- A slice's argument: of a block, or nil. -/
def SlArg (es : Nat) (g : Nat → Option Blk) (s : LV) (bs : List Nat) (xs : List Int) : Prop :=
  (∃ b k cs, slB s = some b ∧ bs = [b] ∧ g b = some k ∧ slInts es s k = some (xs, cs) ∧ ∀ c ∈ cs, c.1 = c.2) ∨ (s = .v (.one .nilsl) ∧ bs = [] ∧ xs = [])

theorem shape1' {es : Nat} {xs : List Int} {g : Nat → Option Blk} {rest : List LV} {rdB : List Blk} {bl : List Nat} {cs0 : List (Bool × Bool)} (h1 : rdA rest = some bl) (h2 : liveAll g bl = some rdB) (h3 : avA es rest rdB = some ([.ints xs], cs0)) (h4 : ∀ c ∈ cs0, c.1 = c.2) :
    ∃ s, rest = [s] ∧ SlArg es g s bl xs := by
  obtain ⟨-, h⟩ := shape1 (es := es) (xs := xs) (g := g) [] rest rdB bl cs0 h1 h2 h3 h4
  rcases h with ⟨s, b, k, cs, e, h⟩ | ⟨e, h⟩
  · exact ⟨s, e, .inl ⟨b, k, cs, h⟩⟩
  · refine ⟨_, e, .inr ⟨rfl, ?_, h⟩⟩
    rw [e] at h1
    cases h1
    rfl

theorem shape2 {es : Nat} {xs ys : List Int} {g : Nat → Option Blk} : ∀ (pre : List LV) (rest : List LV) (rdB : List Blk) (bl : List Nat) (cs0 : List (Bool × Bool)), rdA rest = some bl → liveAll g bl = some rdB → avA es rest rdB = some (pre.map AV.pl ++ [.ints xs, .ints ys], cs0) → (∀ c ∈ cs0, c.1 = c.2) →
  plainVs pre = true ∧ ∃ s1 s2 b1 b2, rest = pre ++ [s1, s2] ∧ bl = b1 ++ b2 ∧ SlArg es g s1 b1 xs ∧ SlArg es g s2 b2 ys := by
  intro pre
  induction pre with
  | nil =>
    intro rest rdB bl cs0 h1 h2 h3 h4
    refine ⟨rfl, ?_⟩
    cases rest with
    | nil => simp [avA] at h3
    | cons s rest =>
      simp only [avA, List.map_nil, List.nil_append] at h3
      split at h3
      · rename_i b hsl
        simp only [rdA, hsl] at h1
        split at h1
        · rename_i r hr1
          cases h1
          obtain ⟨k, r', hk, hr', rfl⟩ := liveAll_cons h2
          simp only at h3
          split at h3
          · rename_i xs' cs1 hx
            split at h3
            · rename_i r2 cs2 hav
              simp only [Option.some.injEq, Prod.mk.injEq, List.cons.injEq, AV.ints.injEq] at h3
              obtain ⟨⟨rfl, hnil⟩, hcs⟩ := h3
              subst hnil
              subst hcs
              obtain ⟨s2, rfl, h⟩ := shape1' hr1 hr' hav fun c hcm => h4 c (List.mem_append_right _ hcm)
              exact ⟨s, s2, [b], r, rfl, rfl, .inl ⟨b, k, cs1, hsl, rfl, hk, hx, fun c hcm => h4 c (List.mem_append_left _ hcm)⟩, h⟩
            · cases h3
          · cases h3
        · cases h1
      · rename_i hsl
        split at h3
        · rename_i hnil
          split at h3
          · rename_i r2 cs2 hav
            simp only [Option.some.injEq, Prod.mk.injEq, List.cons.injEq, AV.ints.injEq] at h3
            obtain ⟨⟨hx, hn2⟩, hcs⟩ := h3
            subst hn2
            simp only [rdA, hsl] at h1
            split at h1
            · obtain ⟨s2, rfl, h⟩ := shape1' h1 h2 hav fun c hcm => h4 c (by rw [← hcs]; exact hcm)
              refine ⟨s, s2, [], bl, rfl, rfl, .inr ⟨?_, rfl, hx.symm⟩, h⟩
              unfold isNilS at hnil
              split at hnil
              · rfl
              · cases hnil
            · cases h1
          · cases h3
        · split at h3 <;> simp at h3
  | cons q pre ih =>
    intro rest rdB bl cs0 h1 h2 h3 h4
    cases rest with
    | nil => simp [avA] at h3
    | cons s rest =>
      simp only [avA, List.map_cons, List.cons_append] at h3
      split at h3
      · rename_i b hsl
        (repeat' split at h3) <;> simp at h3
      · rename_i hsl
        split at h3
        · (repeat' split at h3) <;> simp at h3
        · split at h3
          · rename_i r2 cs2 hav
            simp only [Option.some.injEq, Prod.mk.injEq, List.cons.injEq, AV.pl.injEq] at h3
            obtain ⟨⟨rfl, hr2⟩, rfl⟩ := h3
            simp only [rdA, hsl] at h1
            split at h1
            · rename_i hq
              rw [hr2] at hav
              obtain ⟨i1, s1, s2, b1, b2, i2, i3⟩ := ih rest rdB bl cs2 h1 h2 hav h4
              exact ⟨by simp only [plainVs, hq, i1], s1, s2, b1, b2, by rw [i2]; rfl, i3⟩
            · cases h1
          · cases h3

theorem get3 {kc k1 k2 q : Blk} {i : Nat} (hq : getM [(0, kc), (1, k1), (2, k2)] i = some q) : (i = 0 ∧ q = kc) ∨ (i = 1 ∧ q = k1) ∨ (i = 2 ∧ q = k2) := by
  rw [getM_cons] at hq
  by_cases hi : i = 0
  · subst hi; rw [if_pos rfl] at hq; cases hq; exact .inl ⟨rfl, rfl⟩
  · rw [if_neg hi, getM_cons] at hq
    by_cases hi1 : i = 1
    · subst hi1; rw [if_pos rfl] at hq; cases hq; exact .inr (.inl ⟨rfl, rfl⟩)
    · rw [if_neg hi1, getM_cons] at hq
      by_cases hi2 : i = 2
      · subst hi2; rw [if_pos rfl] at hq; cases hq; exact .inr (.inr ⟨rfl, rfl⟩)
      · rw [if_neg hi2] at hq; simp [getM] at hq
theorem rel3 {E E1 : Env} {g : Nat → Option Blk} {w : World} {c b1 b2 : Nat} {kc k1 k2 : Blk} (hrel : Rel E g w) (hkc : g c = some kc) (hk1 : g b1 = some k1) (hk2 : g b2 = some k2) (h01 : c ≠ b1) (h02 : c ≠ b2) (h12 : b1 ≠ b2)
    (o0 : okL noP kc.cells = true) (o1 : okL noP k1.cells = true) (o2 : okL noP k2.cells = true) (h0 : E1 0 = E c) (h1 : E1 1 = E b1) (h2 : E1 2 = E b2) : Rel E1 (getM [(0, kc), (1, k1), (2, k2)]) w := by
  refine ⟨fun i q hq => ?_, fun i j hi hj he => ?_⟩
  · rcases get3 hq with ⟨rfl, rfl⟩ | ⟨rfl, rfl⟩ | ⟨rfl, rfl⟩
    · exact blkAt_ren o0 h0 (hrel.blk c _ hkc)
    · exact blkAt_ren o1 h1 (hrel.blk b1 _ hk1)
    · exact blkAt_ren o2 h2 (hrel.blk b2 _ hk2)
  · have i01 : ∀ {a b}, (g a).isSome → (g b).isSome → a ≠ b → (E a).1 ≠ (E b).1 := fun ha hb hn e => hn (hrel.inj _ _ ha hb e)
    have sc : (g c).isSome := by rw [hkc]; rfl
    have s1 : (g b1).isSome := by rw [hk1]; rfl
    have s2 : (g b2).isSome := by rw [hk2]; rfl
    obtain ⟨qi, hqi⟩ := Option.isSome_iff_exists.1 hi
    obtain ⟨qj, hqj⟩ := Option.isSome_iff_exists.1 hj
    rcases get3 hqi with ⟨rfl, -⟩ | ⟨rfl, -⟩ | ⟨rfl, -⟩ <;> rcases get3 hqj with ⟨rfl, -⟩ | ⟨rfl, -⟩ | ⟨rfl, -⟩
    · rfl
    · rw [h0, h1] at he; exact absurd he (i01 sc s1 h01)
    · rw [h0, h2] at he; exact absurd he (i01 sc s2 h02)
    · rw [h0, h1] at he; exact absurd he.symm (i01 sc s1 h01)
    · rfl
    · rw [h1, h2] at he; exact absurd he (i01 s1 s2 h12)
    · rw [h0, h2] at he; exact absurd he.symm (i01 sc s2 h02)
    · rw [h1, h2] at he; exact absurd he.symm (i01 s1 s2 h12)
    · rfl

/-- Three numbers' worth of a map. -/
def ren3 (a b c : Nat) : Nat → Nat
  | 0 => a
  | 1 => b
  | _ => c

def NIL : LV := .v (.one .nilsl)
def SLX (b o n c : Nat) : LV := .v (.one (.slx b o n c))

/-- What must be shown of a function with two slices, handed last. -/
structure Two (P : Program) (f : FuncId) (ty : TypeId) (es : Nat) (pre : List LV) (xs ys : List Int) (hb h' : Bool) (v : LV) : Prop where
  two : ∀ (k1 : Blk) (o1 n1 c1 : Nat) (k2 : Blk) (o2 n2 c2 : Nat), SlAt es k1 o1 n1 xs → SlAt es k2 o2 n2 ys → ∀ (E : Env) (w : World), Rel E (getM [(0, flag ty hb), (1, k1), (2, k2)]) w →
    Calls P f ((A0 :: (pre ++ [SLX 1 o1 n1 c1, SLX 2 o2 n2 c2])).map (LV.den E)).toArray w fun e w' => e = .returned (v.den E0) ∧ Lcl E [(0, flag ty hb), (1, k1), (2, k2)] [(0, flag ty h'), (1, k1), (2, k2)] w w'
  one : ∀ (k : Blk) (o1 n1 c1 : Nat) (o2 n2 c2 : Nat), SlAt es k o1 n1 xs → SlAt es k o2 n2 ys → ∀ (E : Env) (w : World), Rel E (getM [(0, flag ty hb), (1, k)]) w →
    Calls P f ((A0 :: (pre ++ [SLX 1 o1 n1 c1, SLX 1 o2 n2 c2])).map (LV.den E)).toArray w fun e w' => e = .returned (v.den E0) ∧ Lcl E [(0, flag ty hb), (1, k)] [(0, flag ty h'), (1, k)] w w'
  right : xs = [] → ∀ (k : Blk) (o n c : Nat), SlAt es k o n ys → ∀ (E : Env) (w : World), Rel E (getM [(0, flag ty hb), (1, k)]) w →
    Calls P f ((A0 :: (pre ++ [NIL, SLX 1 o n c])).map (LV.den E)).toArray w fun e w' => e = .returned (v.den E0) ∧ Lcl E [(0, flag ty hb), (1, k)] [(0, flag ty h'), (1, k)] w w'
  left : ys = [] → ∀ (k : Blk) (o n c : Nat), SlAt es k o n xs → ∀ (E : Env) (w : World), Rel E (getM [(0, flag ty hb), (1, k)]) w →
    Calls P f ((A0 :: (pre ++ [SLX 1 o n c, NIL])).map (LV.den E)).toArray w fun e w' => e = .returned (v.den E0) ∧ Lcl E [(0, flag ty hb), (1, k)] [(0, flag ty h'), (1, k)] w w'
  none : xs = [] → ys = [] → ∀ (E : Env) (w : World), Rel E (getM [(0, flag ty hb)]) w →
    Calls P f ((A0 :: (pre ++ [NIL, NIL])).map (LV.den E)).toArray w fun e w' => e = .returned (v.den E0) ∧ Lcl E [(0, flag ty hb)] [(0, flag ty h')] w w'

theorem acSum2_ok {f : FuncId} (ho : Own P f) {ty : TypeId} {es : Nat} {F : List AV → Bool → Option (LV × Bool × List (Bool × Bool))}
    (hF1 : ∀ avs hb r, F avs hb = some r → ∃ (pre : List LV) (xs ys : List Int), avs = pre.map AV.pl ++ [.ints xs, .ints ys])
    (h : ∀ (pre : List LV) (xs ys : List Int) (hb : Bool) (v : LV) (h' : Bool) (cs : List (Bool × Bool)), F (pre.map AV.pl ++ [.ints xs, .ints ys]) hb = some (v, h', cs) → (∀ c ∈ cs, c.1 = c.2) → plainVs pre = true → v.ok noP = true →
      Two P f ty es pre xs ys hb h' v) : SumOK P f (acSum ty es F) := by
  intro args t g nb p rdB wrB ans ws E w hs hr hw _ hgo hz hc hrel hg hargs hn
  unfold acSum at hs
  split at hs
  · rename_i c rest
    split at hs
    · rename_i bl hbl
      split at hs
      · rename_i hmem
        cases hs
        simp only at hgo hw hr
        split at hgo
        · rename_i t' hb
          split at hgo
          · rename_i hty
            rw [nbeq] at hty
            have hty' : t' = ty := by simpa using hty
            subst hty'
            split at hgo
            · rename_i avs cs0 has
              split at hgo
              · rename_i v h' cs hF
                split at hgo
                · rename_i hv
                  cases hgo
                  obtain ⟨kc, r', hkc, hr', hrr⟩ := liveAll_cons hw
                  cases liveAll_nil hr'
                  cases hrr
                  simp only [zipW] at hz
                  cases hz
                  simp only at hc ⊢
                  have hc0 : ∀ c ∈ cs0, c.1 = c.2 := fun c hcm => hc c (List.mem_append_left _ hcm)
                  have hc1 : ∀ c ∈ cs, c.1 = c.2 := fun c hcm => hc c (List.mem_append_right _ hcm)
                  obtain ⟨pre, xs, ys, rfl⟩ := hF1 _ _ _ hF
                  obtain ⟨hp, s1, s2, b1, b2, rfl, rfl, hs1, hs2⟩ := shape2 (es := es) (xs := xs) (ys := ys) (g := g) pre rest rdB bl cs0 hbl hr has hc0
                  have H := h pre xs ys hb v h' cs hF hc1 hp hv
                  have hpre := plainVs_iff.1 hp
                  have hf0 : (⟨t', (0, 0), 0, [.bool hb]⟩ : Blk) = flag t' hb := rfl
                  rw [hf0] at hkc
                  have hnc : ∀ b ∈ b1 ++ b2, c ≠ b := fun b hbm e => by
                    subst e
                    have := memB_false hmem
                    exact this hbm
                  rcases hs1 with ⟨d1, k1, q1, e1, rfl, hk1, hi1, hq1⟩ | ⟨rfl, rfl, rfl⟩ <;> rcases hs2 with ⟨d2, k2, q2, e2, rfl, hk2, hi2, hq2⟩ | ⟨rfl, rfl, rfl⟩
                  · obtain ⟨o1, n1, cc1, hsa1, -, hden1⟩ := slInts_loc hi1 hq1 e1 (hrel.blk d1 k1 hk1)
                    obtain ⟨o2, n2, cc2, hsa2, -, hden2⟩ := slInts_loc hi2 hq2 e2 (hrel.blk d2 k2 hk2)
                    have hc1 : c ≠ d1 := hnc d1 (by simp)
                    have hc2 : c ≠ d2 := hnc d2 (by simp)
                    by_cases hd : d1 = d2
                    · subst hd
                      rw [hk1] at hk2
                      cases hk2
                      generalize hE1 : (fun i => E (ren2 c d1 i)) = E1
                      have hE : ∀ i, E1 i = E (ren2 c d1 i) := fun i => by rw [← hE1]
                      have hcl := H.one k1 o1 n1 cc1 o2 n2 cc2 hsa1 hsa2 E1 w (rel2 hrel hkc hk1 hc1 rfl hsa1.2.2 (hE 0) (hE 1))
                      refine call_up ho hE hrel hkc rfl rfl (fun i q hq => ?_) (fun i q h0 hq => ?_) (fun i q hq => ?_) ?_ hv hcl
                      · rcases get2 hq with ⟨rfl, rfl⟩ | ⟨rfl, rfl⟩
                        · exact hkc
                        · exact hk1
                      · rw [getM_cons, if_neg h0] at hq ⊢; exact hq
                      · rcases get2 hq with ⟨rfl, rfl⟩ | ⟨rfl, rfl⟩
                        · rfl
                        · exact hsa1.2.2
                      · simp only [List.map_cons, List.map_append, List.map_nil]
                        rw [hden1 E1 1 (hE 1), hden2 E1 1 (hE 1), denL_noP hpre, denL_noP (E := E1) hpre]
                        congr 1
                        show LV.den E (.v (.one (.ptr c 0))) = LV.den E1 (.v (.one (.ptr 0 0)))
                        simp only [LV.den, V1.den, At.den, hE, ren2]
                    · generalize hE1 : (fun i => E (ren3 c d1 d2 i)) = E1
                      have hE : ∀ i, E1 i = E (ren3 c d1 d2 i) := fun i => by rw [← hE1]
                      have hcl := H.two k1 o1 n1 cc1 k2 o2 n2 cc2 hsa1 hsa2 E1 w (rel3 hrel hkc hk1 hk2 hc1 hc2 hd rfl hsa1.2.2 hsa2.2.2 (hE 0) (hE 1) (hE 2))
                      refine call_up ho hE hrel hkc rfl rfl (fun i q hq => ?_) (fun i q h0 hq => ?_) (fun i q hq => ?_) ?_ hv hcl
                      · rcases get3 hq with ⟨rfl, rfl⟩ | ⟨rfl, rfl⟩ | ⟨rfl, rfl⟩
                        · exact hkc
                        · exact hk1
                        · exact hk2
                      · rw [getM_cons, if_neg h0] at hq ⊢; exact hq
                      · rcases get3 hq with ⟨rfl, rfl⟩ | ⟨rfl, rfl⟩ | ⟨rfl, rfl⟩
                        · rfl
                        · exact hsa1.2.2
                        · exact hsa2.2.2
                      · simp only [List.map_cons, List.map_append, List.map_nil]
                        rw [hden1 E1 1 (hE 1), hden2 E1 2 (hE 2), denL_noP hpre, denL_noP (E := E1) hpre]
                        congr 1
                        show LV.den E (.v (.one (.ptr c 0))) = LV.den E1 (.v (.one (.ptr 0 0)))
                        simp only [LV.den, V1.den, At.den, hE, ren3]
                  · obtain ⟨o1, n1, cc1, hsa1, -, hden1⟩ := slInts_loc hi1 hq1 e1 (hrel.blk d1 k1 hk1)
                    have hc1 : c ≠ d1 := hnc d1 (by simp)
                    generalize hE1 : (fun i => E (ren2 c d1 i)) = E1
                    have hE : ∀ i, E1 i = E (ren2 c d1 i) := fun i => by rw [← hE1]
                    have hcl := H.left rfl k1 o1 n1 cc1 hsa1 E1 w (rel2 hrel hkc hk1 hc1 rfl hsa1.2.2 (hE 0) (hE 1))
                    refine call_up ho hE hrel hkc rfl rfl (fun i q hq => ?_) (fun i q h0 hq => ?_) (fun i q hq => ?_) ?_ hv hcl
                    · rcases get2 hq with ⟨rfl, rfl⟩ | ⟨rfl, rfl⟩
                      · exact hkc
                      · exact hk1
                    · rw [getM_cons, if_neg h0] at hq ⊢; exact hq
                    · rcases get2 hq with ⟨rfl, rfl⟩ | ⟨rfl, rfl⟩
                      · rfl
                      · exact hsa1.2.2
                    · simp only [List.map_cons, List.map_append, List.map_nil]
                      rw [hden1 E1 1 (hE 1), denL_noP hpre, denL_noP (E := E1) hpre]
                      congr 1
                      show LV.den E (.v (.one (.ptr c 0))) = LV.den E1 (.v (.one (.ptr 0 0)))
                      simp only [LV.den, V1.den, At.den, hE, ren2]
                  · obtain ⟨o1, n1, cc1, hsa1, -, hden1⟩ := slInts_loc hi2 hq2 e2 (hrel.blk d2 k2 hk2)
                    have hc1 : c ≠ d2 := hnc d2 (by simp)
                    generalize hE1 : (fun i => E (ren2 c d2 i)) = E1
                    have hE : ∀ i, E1 i = E (ren2 c d2 i) := fun i => by rw [← hE1]
                    have hcl := H.right rfl k2 o1 n1 cc1 hsa1 E1 w (rel2 hrel hkc hk2 hc1 rfl hsa1.2.2 (hE 0) (hE 1))
                    refine call_up ho hE hrel hkc rfl rfl (fun i q hq => ?_) (fun i q h0 hq => ?_) (fun i q hq => ?_) ?_ hv hcl
                    · rcases get2 hq with ⟨rfl, rfl⟩ | ⟨rfl, rfl⟩
                      · exact hkc
                      · exact hk2
                    · rw [getM_cons, if_neg h0] at hq ⊢; exact hq
                    · rcases get2 hq with ⟨rfl, rfl⟩ | ⟨rfl, rfl⟩
                      · rfl
                      · exact hsa1.2.2
                    · simp only [List.map_cons, List.map_append, List.map_nil]
                      rw [hden1 E1 1 (hE 1), denL_noP hpre, denL_noP (E := E1) hpre]
                      congr 1
                      show LV.den E (.v (.one (.ptr c 0))) = LV.den E1 (.v (.one (.ptr 0 0)))
                      simp only [LV.den, V1.den, At.den, hE, ren2]
                  · generalize hE1 : (fun _ : Nat => E c) = E1
                    have hE : ∀ i, E1 i = E ((fun _ => c) i) := fun i => by rw [← hE1]
                    have hcl := H.none rfl rfl E1 w (rel1 hrel hkc rfl (hE 0))
                    refine call_up ho hE hrel hkc rfl rfl (fun i q hq => ?_) (fun i q h0 hq => ?_) (fun i q hq => ?_) ?_ hv hcl
                    · obtain ⟨rfl, rfl⟩ := get1 hq; exact hkc
                    · exact absurd (get1 hq).1 h0
                    · obtain ⟨rfl, rfl⟩ := get1 hq; rfl
                    · simp only [List.map_cons, List.map_append, List.map_nil]
                      rw [denL_noP hpre, denL_noP (E := E1) hpre]
                      congr 1
                      show LV.den E (.v (.one (.ptr c 0))) = LV.den E1 (.v (.one (.ptr 0 0)))
                      simp only [LV.den, V1.den, At.den, hE]
                · cases hgo
              · cases hgo
            · cases hgo
          · cases hgo
        · cases hgo
      · cases hs
    · cases hs
  · cases hs

end
end Go.Lr

/- The local evaluator: summaries of methods on a flag that lies in a block of any type. -/
namespace Go.Lr
open Go.RowKit

/-- A flag in a block of any type, and plain values. -/
def accAny (F : List LV → Bool → Option (LV × Bool × List (Bool × Bool))) : Sum := fun args =>
  match args with
  | .v (.one (.ptr c 0)) :: rest => match plainVs rest with
    | true => some ⟨[], [c], fun _ wB _ => match wB with
      | [⟨t, (0, 0), 0, [.bool h]⟩] => match F rest h with
        | some (v, h', cs) => match v.ok noP with
          | true => some ⟨v, [flag t h'], [], cs⟩
          | false => none
        | none => none
      | _ => none⟩
    | false => none
  | _ => none

/-- A flag in a block of any type, plain values, slices of numbers. -/
def acAny (es : Nat) (F : List AV → Bool → Option (LV × Bool × List (Bool × Bool))) : Sum := fun args =>
  match args with
  | .v (.one (.ptr c 0)) :: rest => match rdA rest with
    | some bl => match memB bl c with
      | false => some ⟨bl, [c], fun rdB wB _ => match wB with
        | [⟨t, (0, 0), 0, [.bool h]⟩] => match avA es rest rdB with
          | some (avs, cs0) => match F avs h with
            | some (v, h', cs) => match v.ok noP with
              | true => some ⟨v, [flag t h'], [], cs0 ++ cs⟩
              | false => none
            | none => none
          | none => none
        | _ => none⟩
      | true => none
    | none => none
  | _ => none

def acT (ty : TypeId) (es : Nat) (F : List AV → Bool → Option (LV × Bool × List (Bool × Bool))) (c : Nat) (rest : List LV) (bl : List Nat) : Tch := ⟨bl, [c], fun rdB wB _ => match wB with
  | [⟨t, (0, 0), 0, [.bool h]⟩] => match Nat.beq t ty with
    | true => match avA es rest rdB with
      | some (avs, cs0) => match F avs h with
        | some (v, h', cs) => match v.ok noP with
          | true => some ⟨v, [flag ty h'], [], cs0 ++ cs⟩
          | false => none
        | none => none
      | none => none
    | false => none
  | _ => none⟩

section
variable {P : Program} {S : FuncId → Option SumK}

theorem accAny_ok {f : FuncId} {F : List LV → Bool → Option (LV × Bool × List (Bool × Bool))} (h : ∀ ty, SumOK P f (accSum ty F)) : SumOK P f (accAny F) := by
  intro args t g nb p rdB wrB ans ws E w hs hr hw hnd hgo hz hc hrel hg hargs hn
  unfold accAny at hs
  split at hs
  · rename_i c rest
    split at hs
    · rename_i hp
      cases hs
      simp only at hgo hw hr hz
      split at hgo
      · rename_i t' hb
        split at hgo
        · rename_i v h' cs hF
          split at hgo
          · rename_i hv
            cases hgo
            refine h t' (.v (.one (.ptr c 0)) :: rest) (accT t' F c rest) g nb p rdB _ ⟨v, [flag t' h'], [], cs⟩ ws E w (by unfold accSum; simp only [hp]; rfl) hr hw hnd ?_ hz hc hrel hg hargs hn
            have he : Nat.beq t' t' = true := Nat.beq_refl t'
            simp only [accT, he, hF, hv]
          · cases hgo
        · cases hgo
      · cases hgo
    · cases hs
  · cases hs

theorem acAny_ok {f : FuncId} {es : Nat} {F : List AV → Bool → Option (LV × Bool × List (Bool × Bool))} (h : ∀ ty, SumOK P f (acSum ty es F)) : SumOK P f (acAny es F) := by
  intro args t g nb p rdB wrB ans ws E w hs hr hw hnd hgo hz hc hrel hg hargs hn
  unfold acAny at hs
  split at hs
  · rename_i c rest
    split at hs
    · rename_i bl hbl
      split at hs
      · rename_i hm
        cases hs
        simp only at hgo hw hr hz
        split at hgo
        · rename_i t' hb
          split at hgo
          · rename_i avs cs0 hav
            split at hgo
            · rename_i v h' cs hF
              split at hgo
              · rename_i hv
                cases hgo
                refine h t' (.v (.one (.ptr c 0)) :: rest) (acT t' es F c rest bl) g nb p rdB _ ⟨v, [flag t' h'], [], cs0 ++ cs⟩ ws E w (by unfold acSum; simp only [hbl, hm]; rfl) hr hw hnd ?_ hz hc hrel hg hargs hn
                have he : Nat.beq t' t' = true := Nat.beq_refl t'
                simp only [acT, he, hav, hF, hv]
              · cases hgo
            · cases hgo
          · cases hgo
        · cases hgo
      · cases hs
    · cases hs
  · cases hs

end
end Go.Lr

/- Numbers of 64 bits: what the machine's operations come to. Plain. -/
namespace Go.Lr

theorem u64_in {x : Int} (h0 : 0 ≤ x) (h1 : x < 18446744073709551616) : u64 x = x := by unfold u64; omega
theorem w64_in {x : Int} (h0 : -9223372036854775808 ≤ x) (h1 : x < 9223372036854775808) : w64 x = x := by unfold w64; omega
theorem wr_u (x : Int) : wr .u64 x = u64 x := rfl
theorem wr_i (x : Int) : wr .i64 x = w64 x := rfl
theorem pow2_32u : pow2 (min (Int.toNat 32) IntKind.u64.bits) = 4294967296 := by decide
theorem pow2_63i : pow2 (min (Int.toNat 63) IntKind.i64.bits) = 9223372036854775808 := by decide

theorem land32 (x : Int) (h0 : 0 ≤ x) (h1 : x < 18446744073709551616) : Int.ofNat ((u64 x).toNat.land (u64 4294967295).toNat) = x % 4294967296 := by
  have e : (u64 4294967295).toNat = 2 ^ 32 - 1 := by decide
  rw [u64_in h0 h1, e]
  show ((x.toNat &&& (2 ^ 32 - 1) : Nat) : Int) = _
  rw [Nat.and_two_pow_sub_one_eq_mod]
  omega

theorem lnot (x : Int) (h0 : 0 ≤ x) (h1 : x < 18446744073709551616) : Int.ofNat ((u64 (-1)).toNat.xor (u64 x).toNat) = 18446744073709551615 - x := by
  have e : (u64 (-1)).toNat = (BitVec.allOnes 64).toNat := by decide
  rw [u64_in h0 h1, e]
  have hx : x.toNat < 2 ^ 64 := by omega
  have h2 : (BitVec.ofNat 64 x.toNat).toNat = x.toNat := by rw [BitVec.toNat_ofNat]; exact Nat.mod_eq_of_lt hx
  have h3 : (BitVec.allOnes 64).toNat.xor x.toNat = (BitVec.allOnes 64 ^^^ BitVec.ofNat 64 x.toNat).toNat := by rw [BitVec.toNat_xor, h2]; rfl
  have h4 : BitVec.allOnes 64 ^^^ BitVec.ofNat 64 x.toNat = ~~~BitVec.ofNat 64 x.toNat := by rw [BitVec.xor_comm, BitVec.xor_allOnes]
  rw [h3, h4, BitVec.toNat_not, h2]
  show ((2 ^ 64 - 1 - x.toNat : Nat) : Int) = _
  omega

/-- The high half of a product, as math/bits.Mul64 reckons it. -/
theorem mulHi (x y : Int) (hx0 : 0 ≤ x) (hx1 : x < 18446744073709551616) (hy0 : 0 ≤ y) (hy1 : y < 18446744073709551616) :
    u64 (u64 (u64 (x / 4294967296 * (y / 4294967296)) + u64 (u64 (x / 4294967296 * (y % 4294967296)) + u64 (x % 4294967296 * (y % 4294967296)) / 4294967296) / 4294967296) +
      u64 ((u64 (u64 (x / 4294967296 * (y % 4294967296)) + u64 (x % 4294967296 * (y % 4294967296)) / 4294967296)) % 4294967296 + u64 (x % 4294967296 * (y / 4294967296))) / 4294967296) = x * y / 18446744073709551616 := by
  have hb : ∀ a b : Int, 0 ≤ a → a ≤ 4294967295 → 0 ≤ b → b ≤ 4294967295 → 0 ≤ a * b ∧ a * b ≤ 18446744065119617025 := by
    intro a b h1 h2 h3 h4
    refine ⟨Int.mul_nonneg h1 h3, ?_⟩
    calc a * b ≤ 4294967295 * b := Int.mul_le_mul_of_nonneg_right h2 h3
      _ ≤ 4294967295 * 4294967295 := Int.mul_le_mul_of_nonneg_left h4 (by omega)
      _ = 18446744065119617025 := by decide
  have hprod : x * y = (x / 4294967296 * (y / 4294967296)) * 18446744073709551616 + ((x / 4294967296 * (y % 4294967296)) + (x % 4294967296 * (y / 4294967296))) * 4294967296 + x % 4294967296 * (y % 4294967296) := by
    have ex : x = x / 4294967296 * 4294967296 + x % 4294967296 := by omega
    have ey : y = y / 4294967296 * 4294967296 + y % 4294967296 := by omega
    generalize x / 4294967296 = x1 at *
    generalize x % 4294967296 = x0 at *
    generalize y / 4294967296 = y1 at *
    generalize y % 4294967296 = y0 at *
    rw [ex, ey]
    clear hb ex ey hx0 hx1 hy0 hy1
    grind
  have b1 := hb (x / 4294967296) (y / 4294967296) (by omega) (by omega) (by omega) (by omega)
  have b2 := hb (x / 4294967296) (y % 4294967296) (by omega) (by omega) (by omega) (by omega)
  have b3 := hb (x % 4294967296) (y / 4294967296) (by omega) (by omega) (by omega) (by omega)
  have b4 := hb (x % 4294967296) (y % 4294967296) (by omega) (by omega) (by omega) (by omega)
  rw [hprod]
  generalize x / 4294967296 * (y / 4294967296) = p11 at *
  generalize x / 4294967296 * (y % 4294967296) = p10 at *
  generalize x % 4294967296 * (y / 4294967296) = p01 at *
  generalize x % 4294967296 * (y % 4294967296) = p00 at *
  clear hprod hb
  rw [u64_in (x := p11) (by omega) (by omega), u64_in (x := p10) (by omega) (by omega), u64_in (x := p00) (by omega) (by omega), u64_in (x := p01) (by omega) (by omega)]
  rw [u64_in (x := p10 + p00 / 4294967296) (by omega) (by omega)]
  rw [u64_in (x := (p10 + p00 / 4294967296) % 4294967296 + p01) (by omega) (by omega)]
  unfold u64
  omega

end Go.Lr

/- Numbers of 128 bits in two halves: what the operations on the halves come to. Plain. -/
namespace Go.Lr

/-- The two halves of a number of 128 bits. -/
def wHi (v : Int) : Int := v / 18446744073709551616
def wLo (v : Int) : Int := v % 18446744073709551616
def wVal (h l : Int) : Int := h * 18446744073709551616 + l
theorem wVal_mk (v : Int) : wVal (wHi v) (wLo v) = v := by unfold wVal wHi wLo; omega
theorem hi_mk (x y : Int) (h0 : 0 ≤ y) (h1 : y < 18446744073709551616) : wHi (wVal x y) = x := by unfold wHi wVal; omega
theorem lo_mk (x y : Int) (h0 : 0 ≤ y) (h1 : y < 18446744073709551616) : wLo (wVal x y) = y := by unfold wLo wVal; omega
theorem wLo_in (v : Int) : 0 ≤ wLo v ∧ wLo v < 18446744073709551616 := by unfold wLo; omega
theorem wHi_in (v : Int) (h0 : 0 ≤ v) (h1 : v < 340282366920938463463374607431768211456) : 0 ≤ wHi v ∧ wHi v < 18446744073709551616 := by unfold wHi; omega
theorem wHi_inI (v : Int) (h0 : -170141183460469231731687303715884105728 ≤ v) (h1 : v < 170141183460469231731687303715884105728) : -9223372036854775808 ≤ wHi v ∧ wHi v < 9223372036854775808 := by unfold wHi; omega

theorem pow2_pos (n : Nat) : 0 < pow2 n := by
  have : 0 < 2 ^ n := Nat.two_pow_pos n
  unfold pow2; exact Int.ofNat_lt.2 this
theorem pow2_add (m n : Nat) : pow2 (m + n) = pow2 m * pow2 n := by
  unfold pow2; show ((2 ^ (m + n) : Nat) : Int) = ((2 ^ m : Nat) : Int) * ((2 ^ n : Nat) : Int)
  rw [Nat.pow_add]; exact Int.natCast_mul _ _
theorem pow2_succ (n : Nat) : pow2 (n + 1) = 2 * pow2 n := by rw [pow2_add]; show pow2 n * 2 = _; omega
theorem pow2_64 : pow2 64 = 18446744073709551616 := by decide
theorem pow2_mono {m n : Nat} (h : m ≤ n) : pow2 m ≤ pow2 n := by
  unfold pow2; exact Int.ofNat_le.2 (Nat.pow_le_pow_right (by omega) h)
theorem pow2_le {m n : Nat} (k : Int) (h : m ≤ n) (hk : pow2 n = k) : pow2 m ≤ k := hk ▸ pow2_mono h

theorem lor_add (a b : Nat) (s : Nat) (hb : b < 2 ^ s) : (2 ^ s * a).lor b = 2 ^ s * a + b := (Nat.two_pow_add_eq_or_of_lt hb a).symm

/-- A multiple of a power, and less than the power. -/
theorem ior_add (a b : Int) (s : Nat) (ha : 0 ≤ a) (hb0 : 0 ≤ b) (hb1 : b < pow2 s) (hs : a * pow2 s + b < 18446744073709551616) :
    Int.ofNat ((u64 (a * pow2 s)).toNat.lor (u64 b).toNat) = a * pow2 s + b ∧ Int.ofNat ((u64 b).toNat.lor (u64 (a * pow2 s)).toNat) = a * pow2 s + b := by
  obtain ⟨A, rfl⟩ := Int.eq_ofNat_of_zero_le ha
  obtain ⟨B, rfl⟩ := Int.eq_ofNat_of_zero_le hb0
  have hp : pow2 s = ((2 ^ s : Nat) : Int) := rfl
  rw [hp] at hb1 hs ⊢
  have hB : B < 2 ^ s := Int.ofNat_lt.1 hb1
  have e1 : (A : Int) * ((2 ^ s : Nat) : Int) = ((2 ^ s * A : Nat) : Int) := by rw [Nat.mul_comm]; exact (Int.natCast_mul _ _).symm
  rw [e1] at hs ⊢
  have l1 := lor_add A B s hB
  generalize 2 ^ s * A = M at *
  rw [u64_in (by omega) (by omega), u64_in (by omega) (by omega)]
  simp only [Int.toNat_natCast]
  have l2 : B.lor M = M + B := by
    rw [← l1]; exact Nat.or_comm _ _
  rw [l1, l2]
  exact ⟨Int.natCast_add _ _, Int.natCast_add _ _⟩

theorem emod_unique {a k n r : Int} (h : a = k * n + r) (h0 : 0 ≤ r) (h1 : r < n) : a % n = r := by
  rw [h, Int.add_comm, Int.add_mul_emod_self_right]; exact Int.emod_eq_of_lt h0 h1
theorem ediv_unique {a k n r : Int} (h : a = k * n + r) (h0 : 0 ≤ r) (h1 : r < n) : a / n = k := by
  rw [h, Int.add_comm, Int.add_mul_ediv_right _ _ (by omega), Int.ediv_eq_zero_of_lt h0 h1]; omega

/-- Shifted to the left by less than 64. -/
theorem shl_lt (x y p q : Int) (hq : 0 < q) (hp : 0 < p) (hpq : p * q = 18446744073709551616) (hy0 : 0 ≤ y) (hy1 : y < 18446744073709551616) :
    wHi (wVal x y * p % 340282366920938463463374607431768211456) = (x % q) * p + y / q ∧ wLo (wVal x y * p % 340282366920938463463374607431768211456) = (y % q) * p ∧
    u64 (x * p) = (x % q) * p ∧ u64 (y * p) = (y % q) * p ∧ 0 ≤ y / q ∧ y / q < p ∧ (x % q) * p + y / q < 18446744073709551616 ∧ 0 ≤ x % q := by
  have hx := Int.emod_add_mul_ediv x q
  have hy := Int.emod_add_mul_ediv y q
  have x0 := Int.emod_nonneg x (show q ≠ 0 by omega)
  have x1 := Int.emod_lt_of_pos x hq
  have y0 := Int.emod_nonneg y (show q ≠ 0 by omega)
  have y1 := Int.emod_lt_of_pos y hq
  have d0 : 0 ≤ y / q := Int.ediv_nonneg hy0 (by omega)
  have d1 : y / q < p := Int.ediv_lt_of_lt_mul hq (by rw [hpq]; exact hy1)
  generalize x % q = a at *
  generalize x / q = b at *
  generalize y % q = c at *
  generalize y / q = d at *
  have ha : a * p ≤ 18446744073709551616 - p := by
    have : a * p ≤ (q - 1) * p := Int.mul_le_mul_of_nonneg_right (by omega) (by omega)
    have e : (q - 1) * p = p * q - p := by grind
    omega
  have hc : c * p ≤ 18446744073709551616 - p := by
    have : c * p ≤ (q - 1) * p := Int.mul_le_mul_of_nonneg_right (by omega) (by omega)
    have e : (q - 1) * p = p * q - p := by grind
    omega
  have ha0 : 0 ≤ a * p := Int.mul_nonneg x0 (by omega)
  have hc0 : 0 ≤ c * p := Int.mul_nonneg y0 (by omega)
  have e1 : wVal x y * p = b * 340282366920938463463374607431768211456 + ((a * p + d) * 18446744073709551616 + c * p) := by
    unfold wVal
    rw [← hx, ← hy]
    have e : (340282366920938463463374607431768211456 : Int) = (p * q) * (p * q) := by rw [hpq]; rfl
    rw [e, ← hpq]
    grind
  have e2 : wVal x y * p % 340282366920938463463374607431768211456 = (a * p + d) * 18446744073709551616 + c * p := emod_unique e1 (by omega) (by omega)
  rw [e2]
  refine ⟨by unfold wHi; omega, by unfold wLo; omega, ?_, ?_, d0, d1, by omega, x0⟩
  · refine emod_unique (k := b) ?_ (by omega) (by omega)
    rw [← hx, ← hpq]; grind
  · refine emod_unique (k := d) ?_ (by omega) (by omega)
    rw [← hy, ← hpq]; grind

/-- Shifted to the right by less than 64. -/
theorem shr_lt (x y p q : Int) (hq : 0 < q) (hp : 0 < p) (hpq : p * q = 18446744073709551616) (hy0 : 0 ≤ y) (hy1 : y < 18446744073709551616) :
    wHi (wVal x y / p) = x / p ∧ wLo (wVal x y / p) = (x % p) * q + y / p ∧ u64 (x * q) = (x % p) * q ∧ 0 ≤ y / p ∧ y / p < q ∧ (x % p) * q + y / p < 18446744073709551616 ∧ 0 ≤ x % p := by
  have hx := Int.emod_add_mul_ediv x p
  have hy := Int.emod_add_mul_ediv y p
  have x0 := Int.emod_nonneg x (show p ≠ 0 by omega)
  have x1 := Int.emod_lt_of_pos x hp
  have y0 := Int.emod_nonneg y (show p ≠ 0 by omega)
  have y1 := Int.emod_lt_of_pos y hp
  have d0 : 0 ≤ y / p := Int.ediv_nonneg hy0 (by omega)
  have d1 : y / p < q := Int.ediv_lt_of_lt_mul hp (by rw [Int.mul_comm, hpq]; exact hy1)
  generalize x % p = a at *
  generalize x / p = b at *
  generalize y % p = c at *
  generalize y / p = d at *
  have ha : a * q ≤ 18446744073709551616 - q := by
    have : a * q ≤ (p - 1) * q := Int.mul_le_mul_of_nonneg_right (by omega) (by omega)
    have e : (p - 1) * q = p * q - q := by grind
    omega
  have ha0 : 0 ≤ a * q := Int.mul_nonneg x0 (by omega)
  have e1 : wVal x y = (b * 18446744073709551616 + (a * q + d)) * p + c := by
    unfold wVal
    rw [← hx, ← hy, ← hpq]
    grind
  have e2 : wVal x y / p = b * 18446744073709551616 + (a * q + d) := ediv_unique e1 y0 y1
  rw [e2]
  refine ⟨by unfold wHi; omega, by unfold wLo; omega, ?_, d0, d1, by omega, x0⟩
  refine emod_unique (k := b) ?_ (by omega) (by omega)
  rw [← hx, ← hpq]; grind

end Go.Lr

/- The scalars' operations in numbers: clamping, rounding, dividing, roots. Plain. -/
namespace Go.Lr
set_option linter.unusedVariables false

def absV (a : Int) : Int := if a < 0 then -a else a
def sgn (neg : Bool) (x : Int) : Int := if neg then -x else x
theorem absV_nn (a : Int) : 0 ≤ absV a := by unfold absV; split <;> omega
theorem absV_pos {a : Int} (h : 0 ≤ a) : absV a = a := by unfold absV; rw [if_neg (by omega)]
theorem absV_neg {a : Int} (h : a ≤ 0) : absV a = -a := by unfold absV; split <;> omega
theorem absV_eq (a : Int) : absV a = a.natAbs := by unfold absV; split <;> omega
theorem absV_mul (a b : Int) : absV (a * b) = absV a * absV b := by
  simp only [absV_eq, Int.natAbs_mul]; exact Int.natCast_mul _ _
theorem absV_negate (a : Int) : absV (-a) = absV a := by unfold absV; split <;> split <;> omega
theorem sgn_abs (a : Int) : sgn (decide (a < 0)) (absV a) = a := by
  unfold sgn absV; by_cases h : a < 0 <;> simp [h]
theorem sgn_mul (a b : Int) : sgn (!(decide (a < 0) == decide (b < 0))) (absV a * absV b) = a * b := by
  have hnn : -a * -b = a * b := by grind
  have hn1 : -(-a * b) = a * b := by grind
  have hn2 : -(a * -b) = a * b := by grind
  unfold sgn absV
  by_cases h : a < 0 <;> by_cases k : b < 0 <;> simp only [h, k, decide_true, decide_false, if_true, if_false] <;> simp [hnn, hn1, hn2]

/-- Half of a power: nothing for none. -/
def halfP (s : Nat) : Int := match s with
  | 0 => 0
  | n + 1 => pow2 n
/-- Divided by a power of two, rounded, halves away from nought. -/
def rndV (v : Int) (s : Nat) : Int := sgn (decide (v < 0)) ((absV v + halfP s) / pow2 s)
/-- Divided, rounded, halves away from nought. -/
def quoR (a b : Int) : Int := if a % b ≥ b - a % b then a / b + 1 else a / b
def divV (w d : Int) : Int := sgn (!(decide (w < 0) == decide (d < 0))) (quoR (absV w) (absV d))

theorem prod_lt {a b k l : Int} (ha : absV a ≤ k) (hb : absV b ≤ l) : -(k * l) ≤ a * b ∧ a * b ≤ k * l := by
  have h0 := absV_nn a
  have h1 := absV_nn b
  have h2 : absV a * absV b ≤ k * l := Int.mul_le_mul ha hb h1 (by omega)
  rw [← absV_mul] at h2
  have h3 := sgn_abs (a * b)
  unfold absV at h2
  split at h2 <;> omega

/-- The root, bit by bit: what is left, and twice the root so far times a power. -/
def rtL : Nat → Int → Int → Int × Int
  | 0, p, r => (p, r)
  | k + 1, p, r => match decide (p < r + pow2 (2 * k)) with
    | true => rtL k p (r / 2)
    | false => rtL k (p - (r + pow2 (2 * k))) (r / 2 + pow2 (2 * k))
/-- The root, rounded. -/
def rootW (v : Int) : Int := match rtL 64 v 0 with
  | (p, r) => if r < p then r + 1 else r

def RtInv (N : Int) (m : Nat) (p r : Int) : Prop :=
  ∃ Q : Int, 0 ≤ Q ∧ r = Q * pow2 m ∧ p = N - Q * Q ∧ Q * Q ≤ N ∧ N < (Q + pow2 m) * (Q + pow2 m) ∧ (Q = 0 ∨ pow2 m ≤ Q)

theorem pow2_dbl (m : Nat) : pow2 (2 * m) = pow2 m * pow2 m := by rw [Nat.two_mul, pow2_add]
theorem RtInv.half {N : Int} {m : Nat} {p r : Int} (h : RtInv N (m + 1) p r) (hlt : p < r + pow2 (2 * m)) : RtInv N m p (r / 2) := by
  obtain ⟨Q, h0, rfl, rfl, h3, h4, h5⟩ := h
  have hp := pow2_pos m
  have hs := pow2_succ m
  rw [pow2_dbl] at hlt
  rw [hs] at hlt h4 h5 ⊢
  have e : Q * (2 * pow2 m) = 2 * (Q * pow2 m) := by grind
  refine ⟨Q, h0, by rw [e]; omega, rfl, h3, ?_, by omega⟩
  have e2 : (Q + pow2 m) * (Q + pow2 m) = Q * Q + 2 * (Q * pow2 m) + pow2 m * pow2 m := by grind
  rw [e2]; omega
theorem RtInv.take {N : Int} {m : Nat} {p r : Int} (h : RtInv N (m + 1) p r) (hge : ¬ p < r + pow2 (2 * m)) : RtInv N m (p - (r + pow2 (2 * m))) (r / 2 + pow2 (2 * m)) := by
  obtain ⟨Q, h0, rfl, rfl, h3, h4, h5⟩ := h
  have hp := pow2_pos m
  have hs := pow2_succ m
  rw [pow2_dbl] at hge ⊢
  rw [hs] at hge h4 h5 ⊢
  have e : Q * (2 * pow2 m) = 2 * (Q * pow2 m) := by grind
  have e2 : (Q + pow2 m) * (Q + pow2 m) = Q * Q + 2 * (Q * pow2 m) + pow2 m * pow2 m := by grind
  have e3 : (Q + pow2 m) * pow2 m = Q * pow2 m + pow2 m * pow2 m := by grind
  have e4 : (Q + pow2 m + pow2 m) * (Q + pow2 m + pow2 m) = (Q + 2 * pow2 m) * (Q + 2 * pow2 m) := by grind
  rw [e] at hge ⊢
  refine ⟨Q + pow2 m, by omega, by rw [e3]; omega, by rw [e2]; omega, by rw [e2]; omega, by rw [e4]; exact h4, by omega⟩
theorem RtInv.bd {N : Int} {m : Nat} {p r : Int} (h : RtInv N m p r) : 0 ≤ p ∧ p ≤ N ∧ 0 ≤ r ∧ r ≤ N := by
  obtain ⟨Q, h0, rfl, rfl, h3, h4, h5⟩ := h
  have hp := pow2_pos m
  have hq : 0 ≤ Q * Q := Int.mul_nonneg h0 h0
  refine ⟨by omega, by omega, Int.mul_nonneg h0 (by omega), ?_⟩
  rcases h5 with rfl | h5
  · omega
  · have : Q * pow2 m ≤ Q * Q := Int.mul_le_mul_of_nonneg_left h5 h0
    omega
theorem RtInv.start {N : Int} (h0 : 0 ≤ N) (h1 : N < 340282366920938463463374607431768211456) : RtInv N 64 N 0 := by
  refine ⟨0, by omega, by omega, by omega, by omega, ?_, .inl rfl⟩
  have : pow2 64 = 18446744073709551616 := pow2_64
  rw [this]; omega
theorem RtInv.run {N : Int} : ∀ {m : Nat} {p r : Int}, RtInv N m p r → RtInv N 0 (rtL m p r).1 (rtL m p r).2
  | 0, p, r, h => h
  | m + 1, p, r, h => by
    simp only [rtL]
    by_cases hlt : p < r + pow2 (2 * m)
    · rw [decide_eq_true hlt]; exact (h.half hlt).run
    · rw [decide_eq_false hlt]; exact (h.take hlt).run

/-- The root's floor, and which way it is rounded. -/
theorem rootW_spec {N : Int} (h0 : 0 ≤ N) (h1 : N < 340282366920938463463374607431768211456) :
    0 ≤ rootW N ∧ N ≤ rootW N * rootW N + rootW N ∧ (rootW N = 0 ∨ rootW N * rootW N - rootW N + 1 ≤ N) := by
  have h := (RtInv.start h0 h1).run
  unfold rootW
  generalize rtL 64 N 0 = q at h ⊢
  obtain ⟨p, r⟩ := q
  obtain ⟨Q, a0, a1, a2, a3, a4, -⟩ := h
  simp only at a1 a2 ⊢
  have e1 : pow2 0 = 1 := rfl
  rw [e1, Int.mul_one] at a1
  rw [e1] at a4
  have a1' : Q = r := a1.symm
  subst a1'
  subst a2
  have e2 : (Q + 1) * (Q + 1) = Q * Q + 2 * Q + 1 := by grind
  have hq : 0 ≤ Q * Q := Int.mul_nonneg a0 a0
  split
  · refine ⟨by omega, by rw [e2]; omega, .inr (by rw [e2]; omega)⟩
  · refine ⟨a0, by omega, ?_⟩
    by_cases h' : Q = 0
    · exact .inl h'
    · right; omega

end Go.Lr

/- This seat's program: what the evaluator leans on; math/bits' two that the model answers. -/
namespace Go.Proofs.Ytdkmiliehlhmbaa
open Go.Lr

theorem ngAll : (Try.prog.funcs.toList.all fun fn => fn.name != "runtime.NumGoroutine") = true := by kernel_rfl
theorem ng : ∀ (f : FuncId) (fn : Func), Try.prog.funcs[f]? = some fn → fn.name ≠ "runtime.NumGoroutine" := by
  intro f fn h
  have := List.all_eq_true.1 ngAll fn (by
    have h' : Try.prog.funcs.toList[f]? = some fn := by simpa using h
    exact List.mem_of_getElem? h')
  simpa using this
theorem mix : Try.prog.follows .mixedOrders = true := by kernel_rfl

theorem sumAdd64 : SumOK Try.prog 97 (pureSum addF) := add64_ok Try.func97 (by kernel_rfl) (by kernel_rfl) (by kernel_rfl) (by kernel_rfl)
theorem sumSub64 : SumOK Try.prog 108 (pureSum subF) := sub64_ok Try.func108 (by kernel_rfl) (by kernel_rfl) (by kernel_rfl) (by kernel_rfl)

def S0 : FuncId → Option SumK := more (more (fun _ => none) 97 (pureSum addF)) 108 (pureSum subF)
theorem sound0 : Sound Try.prog S0 := ((Sound.none mix ng).more sumAdd64).more sumSub64

/-- Closed runs: every number is known. -/
def Zc : Md := ⟨true, true, false⟩
/-- Runs of numbers that are not known; by the list; without cutting short. -/
def Zl : Md := ⟨false, true, false⟩
def Za : Md := ⟨false, true, true⟩
def I (n : Int) : LV := .v (.one (.int .i64 n))
def B (b : Bool) : LV := .v (.one (.bool b))
end Go.Proofs.Ytdkmiliehlhmbaa

/- fx: Clamp, Sat; astrolabelaw2's awake. -/
namespace Go.Proofs.Ytdkmiliehlhmbaa
open Go.Lr

def clampV (a lo hi : Int) : Int := if lo > hi then lo else if a < lo then lo else if a > hi then hi else a
def clampH (a lo hi : Int) : Bool := decide (lo > hi) || decide (a < lo) || decide (a > hi)

def clampF : List LV → Bool → Option (LV × Bool × List (Bool × Bool))
  | [.v (.one (.int .i64 a)), .v (.one (.int .i64 lo)), .v (.one (.int .i64 hi))], h => some (I (clampV a lo hi), h || clampH a lo hi, [])
  | _, _ => none

abbrev acc3 (r : LV × Mem × Nat × List (Bool × Bool)) := (r.1, getM r.2.1 0, r.2.2.2)

theorem clamp1 (a lo hi : Int) (h : Bool) : (runF Try.prog S0 Zl 200 72 [A0, I a, I lo, I hi] [(0, flag 41 h)] 1 [some true]).map acc3 = some (I lo, some (flag 41 true), [(decide (lo > hi), true)]) := by kernel_rfl
theorem clamp2 (a lo hi : Int) (h : Bool) : (runF Try.prog S0 Zl 200 72 [A0, I a, I lo, I hi] [(0, flag 41 h)] 1 [some false, some true]).map acc3 = some (I lo, some (flag 41 true), [(decide (a < lo), true), (decide (lo > hi), false)]) := by kernel_rfl
theorem clamp3 (a lo hi : Int) (h : Bool) : (runF Try.prog S0 Zl 200 72 [A0, I a, I lo, I hi] [(0, flag 41 h)] 1 [some false, some false, some true]).map acc3 = some (I hi, some (flag 41 true), [(decide (a > hi), true), (decide (a < lo), false), (decide (lo > hi), false)]) := by kernel_rfl
theorem clamp4 (a lo hi : Int) (h : Bool) : (runF Try.prog S0 Zl 200 72 [A0, I a, I lo, I hi] [(0, flag 41 h)] 1 [some false, some false, some false]).map acc3 = some (I a, some (flag 41 h), [(decide (a > hi), false), (decide (a < lo), false), (decide (lo > hi), false)]) := by kernel_rfl

theorem sumClamp : SumOK Try.prog 72 (accSum 41 clampF) := by
  refine accSum_run (z := Zl) sound0 (own_of sound0 Try.func72 (by kernel_rfl)) fun args hb v h' cs hF _ => ?_
  unfold clampF at hF
  split at hF
  · rename_i a lo hi
    cases hF
    refine ⟨rfl, ?_⟩
    by_cases h1 : lo > hi
    · rw [show clampV a lo hi = lo by simp [clampV, h1], show (hb || clampH a lo hi) = true by simp [clampH, h1]]
      exact ⟨200, [some true], _, clamp1 a lo hi hb, by simp [h1]⟩
    · by_cases h2 : a < lo
      · rw [show clampV a lo hi = lo by simp [clampV, h2], show (hb || clampH a lo hi) = true by simp [clampH, h2]]
        exact ⟨200, [some false, some true], _, clamp2 a lo hi hb, by simp [h2]; omega⟩
      · by_cases h3 : a > hi
        · rw [show clampV a lo hi = hi by simp [clampV, h1, h2, h3], show (hb || clampH a lo hi) = true by simp [clampH, h3]]
          exact ⟨200, [some false, some false, some true], _, clamp3 a lo hi hb, by simp [h3]; omega⟩
        · rw [show clampV a lo hi = a by simp [clampV, h1, h2, h3], show (hb || clampH a lo hi) = hb by simp [clampH, h1, h2, h3]]
          exact ⟨200, [some false, some false, some false], _, clamp4 a lo hi hb, by simp; omega⟩
  · cases hF

def S2 : FuncId → Option SumK := more S0 72 (accSum 41 clampF)
theorem sound2 : Sound Try.prog S2 := sound0.more sumClamp

def satV (a : Int) : Int := clampV a (-1152921504606846976) 1152921504606846976
def satH (a : Int) : Bool := clampH a (-1152921504606846976) 1152921504606846976
def satF : List LV → Bool → Option (LV × Bool × List (Bool × Bool))
  | [.v (.one (.int .i64 a))], h => some (I (satV a), h || satH a, [])
  | _, _ => none
theorem sat1 (a : Int) (h : Bool) : (runF Try.prog S2 Zl 200 45 [A0, I a] [(0, flag 41 h)] 1 []).map acc3 = some (I (satV a), some (flag 41 (h || satH a)), []) := by kernel_rfl
theorem sumSat : SumOK Try.prog 45 (accSum 41 satF) := by
  refine accSum_run (z := Zl) sound2 (own_of sound2 Try.func45 (by kernel_rfl)) fun args hb v h' cs hF _ => ?_
  unfold satF at hF
  split at hF
  · rename_i a
    cases hF
    exact ⟨rfl, 200, [], _, sat1 a hb, by simp⟩
  · cases hF

def trueF : List LV → Option (LV × List (Bool × Bool)) := fun args => match args with | [] => some (B true, []) | _ => none
end Go.Proofs.Ytdkmiliehlhmbaa

/- math/bits.Mul64, wide.Of, wide.Mul, by their runs. -/
namespace Go.Proofs.Ytdkmiliehlhmbaa
open Go.Lr

theorem runMul64 (x y : Int) : (runF Try.prog S0 Zl 200 94 [.v (.one (.int .u64 x)), .v (.one (.int .u64 y))] [] 0 []).map (fun r => (r.1, r.2.2.2)) = some (LV.tup [V1.one (At.int IntKind.u64 (wr IntKind.u64 (wr IntKind.u64 (wr IntKind.u64 (x / pow2 (min (Int.toNat 32) IntKind.u64.bits) * (y / pow2 (min (Int.toNat 32) IntKind.u64.bits))) + wr IntKind.u64 (wr IntKind.u64 (x / pow2 (min (Int.toNat 32) IntKind.u64.bits) * Int.ofNat ((u64 y).toNat.land (u64 4294967295).toNat)) + wr IntKind.u64 (Int.ofNat ((u64 x).toNat.land (u64 4294967295).toNat) * Int.ofNat ((u64 y).toNat.land (u64 4294967295).toNat)) / pow2 (min (Int.toNat 32) IntKind.u64.bits)) / pow2 (min (Int.toNat 32) IntKind.u64.bits)) + wr IntKind.u64 (Int.ofNat ((u64 (wr IntKind.u64 (wr IntKind.u64 (x / pow2 (min (Int.toNat 32) IntKind.u64.bits) * Int.ofNat ((u64 y).toNat.land (u64 4294967295).toNat)) + wr IntKind.u64 (Int.ofNat ((u64 x).toNat.land (u64 4294967295).toNat) * Int.ofNat ((u64 y).toNat.land (u64 4294967295).toNat)) / pow2 (min (Int.toNat 32) IntKind.u64.bits)))).toNat.land (u64 4294967295).toNat) + wr IntKind.u64 (Int.ofNat ((u64 x).toNat.land (u64 4294967295).toNat) * (y / pow2 (min (Int.toNat 32) IntKind.u64.bits)))) / pow2 (min (Int.toNat 32) IntKind.u64.bits)))), V1.one (At.int IntKind.u64 (wr IntKind.u64 (x * y)))], []) := by kernel_rfl

/-- Is it a number of 64 bits without a sign? -/
def isU (x : Int) : Bool := decide (0 ≤ x) && decide (x < 18446744073709551616)
def isI (x : Int) : Bool := decide (-9223372036854775808 ≤ x) && decide (x < 9223372036854775808)
theorem isU_iff {x : Int} : isU x = true ↔ 0 ≤ x ∧ x < 18446744073709551616 := by simp [isU]
theorem isI_iff {x : Int} : isI x = true ↔ -9223372036854775808 ≤ x ∧ x < 9223372036854775808 := by simp [isI]

def mul64F : List LV → Option (LV × List (Bool × Bool))
  | [.v (.one (.int .u64 x)), .v (.one (.int .u64 y))] => some (.tup [.one (.int .u64 (x * y / 18446744073709551616)), .one (.int .u64 (x * y % 18446744073709551616))], [(isU x, true), (isU y, true)])
  | _ => none

theorem sumMul64 : SumOK Try.prog 94 (pureSum mul64F) := by
  refine pureSum_run (z := Zl) sound0 (own_of sound0 Try.func94 (by kernel_rfl)) fun args v cs hF hc => ?_
  unfold mul64F at hF
  split at hF
  · rename_i x y
    cases hF
    obtain ⟨hx0, hx1⟩ := isU_iff.1 (hc (isU x, true) (by simp))
    obtain ⟨hy0, hy1⟩ := isU_iff.1 (hc (isU y, true) (by simp))
    have h := runMul64 x y
    simp only [wr_u, pow2_32u] at h
    have hm : 0 ≤ u64 (u64 (x / 4294967296 * Int.ofNat ((u64 y).toNat.land (u64 4294967295).toNat)) + u64 (Int.ofNat ((u64 x).toNat.land (u64 4294967295).toNat) * Int.ofNat ((u64 y).toNat.land (u64 4294967295).toNat)) / 4294967296) ∧
        u64 (u64 (x / 4294967296 * Int.ofNat ((u64 y).toNat.land (u64 4294967295).toNat)) + u64 (Int.ofNat ((u64 x).toNat.land (u64 4294967295).toNat) * Int.ofNat ((u64 y).toNat.land (u64 4294967295).toNat)) / 4294967296) < 18446744073709551616 := by
      generalize u64 (x / 4294967296 * Int.ofNat ((u64 y).toNat.land (u64 4294967295).toNat)) + u64 (Int.ofNat ((u64 x).toNat.land (u64 4294967295).toNat) * Int.ofNat ((u64 y).toNat.land (u64 4294967295).toNat)) / 4294967296 = t
      unfold u64; omega
    rw [land32 _ hm.1 hm.2, land32 x hx0 hx1, land32 y hy0 hy1, mulHi x y hx0 hx1 hy0 hy1] at h
    exact ⟨200, [], [], h, by simp⟩
  · cases hF

def W1 (v : Int) : V1 := .agg [.int .i64 (wHi v), .int .u64 (wLo v)]

def S4 : FuncId → Option SumK := more S0 94 (pureSum mul64F)
theorem sound4 : Sound Try.prog S4 := sound0.more sumMul64
end Go.Proofs.Ytdkmiliehlhmbaa

/- wide's helpers: abs64, signed, by their runs. -/
namespace Go.Proofs.Ytdkmiliehlhmbaa
open Go.Lr
theorem runSgP (x y : Int) : (runF Try.prog S4 Za 200 88 [.v (.agg [.int .u64 x, .int .u64 y]), B false] [] 0 []).map (fun r => (r.1, r.2.2.2)) = some (LV.tup [V1.agg [At.int IntKind.i64 (wr IntKind.i64 x), At.int IntKind.u64 y], V1.one (At.bool (x / pow2 (min (Int.toNat 63) IntKind.u64.bits) == 0))], []) := by kernel_rfl
theorem runSgN (x y : Int) : (runF Try.prog S4 Za 200 88 [.v (.agg [.int .u64 x, .int .u64 y]), B true] [] 0 [none]).map (fun r => (r.1, r.2.2.2)) = some (LV.tup [V1.agg [At.int IntKind.i64 (wr IntKind.i64 (wr IntKind.u64 (Int.ofNat ((u64 (-1)).toNat.xor (u64 x).toNat) + (Int.ofNat ((u64 (-1)).toNat.xor (u64 y).toNat) + 1 + 0) / 18446744073709551616))), At.int IntKind.u64 (u64 (Int.ofNat ((u64 (-1)).toNat.xor (u64 y).toNat) + 1 + 0))], V1.one (At.bool (x == 0 && (y == 0 && true)))], [(decide (wr IntKind.i64 (wr IntKind.u64 (Int.ofNat ((u64 (-1)).toNat.xor (u64 x).toNat) + (Int.ofNat ((u64 (-1)).toNat.xor (u64 y).toNat) + 1 + 0) / 18446744073709551616)) < 0), false), (decide (wr IntKind.i64 (wr IntKind.u64 (Int.ofNat ((u64 (-1)).toNat.xor (u64 x).toNat) + (Int.ofNat ((u64 (-1)).toNat.xor (u64 y).toNat) + 1 + 0) / 18446744073709551616)) < 0), false), (decide (wr IntKind.i64 (wr IntKind.u64 (Int.ofNat ((u64 (-1)).toNat.xor (u64 x).toNat) + (Int.ofNat ((u64 (-1)).toNat.xor (u64 y).toNat) + 1 + 0) / 18446744073709551616)) < 0), false), (decide (wr IntKind.i64 (wr IntKind.u64 (Int.ofNat ((u64 (-1)).toNat.xor (u64 x).toNat) + (Int.ofNat ((u64 (-1)).toNat.xor (u64 y).toNat) + 1 + 0) / 18446744073709551616)) < 0), false), (decide (0 ≤ Int.ofNat ((u64 (-1)).toNat.xor (u64 y).toNat)) && (decide (0 ≤ 1) && (decide (0 ≤ 0) && decide (0 ≤ 1))), true)]) := by kernel_rfl
theorem runSgT (x y : Int) : (runF Try.prog S4 Za 200 88 [.v (.agg [.int .u64 x, .int .u64 y]), B true] [] 0 [none, some true, some true, some true, some true, some true]).map (fun r => (r.1, r.2.2.2)) = some (LV.tup [V1.agg [At.int IntKind.i64 (wr IntKind.i64 (wr IntKind.u64 (Int.ofNat ((u64 (-1)).toNat.xor (u64 x).toNat) + (Int.ofNat ((u64 (-1)).toNat.xor (u64 y).toNat) + 1 + 0) / 18446744073709551616))), At.int IntKind.u64 (u64 (Int.ofNat ((u64 (-1)).toNat.xor (u64 y).toNat) + 1 + 0))], V1.one (At.bool true)], [(decide (wr IntKind.i64 (wr IntKind.u64 (Int.ofNat ((u64 (-1)).toNat.xor (u64 x).toNat) + (Int.ofNat ((u64 (-1)).toNat.xor (u64 y).toNat) + 1 + 0) / 18446744073709551616)) < 0), true), (decide (wr IntKind.i64 (wr IntKind.u64 (Int.ofNat ((u64 (-1)).toNat.xor (u64 x).toNat) + (Int.ofNat ((u64 (-1)).toNat.xor (u64 y).toNat) + 1 + 0) / 18446744073709551616)) < 0), true), (decide (wr IntKind.i64 (wr IntKind.u64 (Int.ofNat ((u64 (-1)).toNat.xor (u64 x).toNat) + (Int.ofNat ((u64 (-1)).toNat.xor (u64 y).toNat) + 1 + 0) / 18446744073709551616)) < 0), true), (decide (wr IntKind.i64 (wr IntKind.u64 (Int.ofNat ((u64 (-1)).toNat.xor (u64 x).toNat) + (Int.ofNat ((u64 (-1)).toNat.xor (u64 y).toNat) + 1 + 0) / 18446744073709551616)) < 0), true), (decide (0 ≤ Int.ofNat ((u64 (-1)).toNat.xor (u64 y).toNat)) && (decide (0 ≤ 1) && (decide (0 ≤ 0) && decide (0 ≤ 1))), true)]) := by kernel_rfl
theorem runAbN (a : Int) : (runF Try.prog S4 Zl 200 85 [I a] [] 0 [some true]).map (fun r => (r.1, r.2.2.2)) = some (LV.v (V1.one (At.int IntKind.u64 (wr IntKind.u64 (0 - wr IntKind.u64 a)))), [(decide (a < 0), true)]) := by kernel_rfl
theorem runAbP (a : Int) : (runF Try.prog S4 Zl 200 85 [I a] [] 0 [some false]).map (fun r => (r.1, r.2.2.2)) = some (LV.v (V1.one (At.int IntKind.u64 (wr IntKind.u64 a))), [(decide (a < 0), false)]) := by kernel_rfl

def absF : List LV → Option (LV × List (Bool × Bool))
  | [.v (.one (.int .i64 a))] => some (.v (.one (.int .u64 (absV a))), [(isI a, true)])
  | _ => none
theorem sumAbs64 : SumOK Try.prog 85 (pureSum absF) := by
  refine pureSum_run (z := Zl) sound4 (own_of sound4 Try.func85 (by kernel_rfl)) fun args v cs hF hc => ?_
  unfold absF at hF
  split at hF
  · rename_i a
    cases hF
    obtain ⟨h0, h1⟩ := isI_iff.1 (hc (isI a, true) (by simp))
    by_cases ha : a < 0
    · rw [show absV a = -a from if_pos ha]
      have h := runAbN a
      rw [show wr .u64 (0 - wr .u64 a) = -a by simp only [wr_u]; unfold u64; omega] at h
      exact ⟨200, [some true], _, h, by simp [ha]⟩
    · rw [show absV a = a from if_neg ha]
      have h := runAbP a
      rw [show wr .u64 a = a by simp only [wr_u]; unfold u64; omega] at h
      exact ⟨200, [some false], _, h, by simp; omega⟩
  · cases hF

/-- Is it a number of 128 bits? -/
def isW (v : Int) : Bool := decide (-170141183460469231731687303715884105728 ≤ v) && decide (v < 170141183460469231731687303715884105728)
def signedF : List LV → Option (LV × List (Bool × Bool))
  | [.v (.agg [.int .u64 x, .int .u64 y]), .v (.one (.bool neg))] =>
    some (.tup [.agg [.int .i64 (w64 (wHi (sgn neg (wVal x y)))), .int .u64 (wLo (sgn neg (wVal x y)))], .one (.bool (isW (sgn neg (wVal x y))))], [(isU x, true), (isU y, true)])
  | _ => none

theorem sgL {a a' b b' : Int} {c c' : Bool} (cs : List (Bool × Bool)) (h1 : a = a') (h2 : b = b') (h3 : c = c') :
    some (LV.tup [V1.agg [At.int .i64 a, At.int .u64 b], V1.one (At.bool c)], cs) = some (LV.tup [V1.agg [At.int .i64 a', At.int .u64 b'], V1.one (At.bool c')], cs) := by
  subst h1; subst h2; subst h3; rfl
theorem isW_iff {v : Int} : isW v = true ↔ -170141183460469231731687303715884105728 ≤ v ∧ v < 170141183460469231731687303715884105728 := by simp [isW]
theorem neg_lo (x y : Int) :
    u64 (18446744073709551615 - y + 1 + 0) = wLo (-(wVal x y)) := by unfold u64 wLo wVal; omega
theorem neg_hi (x y : Int) :
    w64 (u64 (18446744073709551615 - x + (18446744073709551615 - y + 1 + 0) / 18446744073709551616)) = w64 (wHi (-(wVal x y))) := by unfold w64 u64 wHi wVal; omega
theorem neg_lt (x y : Int) (hx0 : 0 ≤ x) (hx1 : x < 18446744073709551616) (h0 : 0 ≤ y) (h1 : y < 18446744073709551616)
    (h : w64 (wHi (-(wVal x y))) < 0) : -170141183460469231731687303715884105728 ≤ -(wVal x y) ∧ -(wVal x y) < 170141183460469231731687303715884105728 := by
  revert h; unfold w64 wHi wVal; omega
theorem neg_ge (x y : Int) (hx0 : 0 ≤ x) (hx1 : x < 18446744073709551616) (h0 : 0 ≤ y) (h1 : y < 18446744073709551616)
    (h : ¬ w64 (wHi (-(wVal x y))) < 0) : (-170141183460469231731687303715884105728 ≤ -(wVal x y) ∧ -(wVal x y) < 170141183460469231731687303715884105728) ↔ (x = 0 ∧ y = 0) := by
  revert h; unfold w64 wHi wVal; omega
theorem pos_ok (x y : Int) (hx0 : 0 ≤ x) (hx1 : x < 18446744073709551616) (h0 : 0 ≤ y) (h1 : y < 18446744073709551616) :
    x / 9223372036854775808 = 0 ↔ (-170141183460469231731687303715884105728 ≤ wVal x y ∧ wVal x y < 170141183460469231731687303715884105728) := by
  unfold wVal; omega

theorem sumSigned : SumOK Try.prog 88 (pureSum signedF) := by
  refine pureSum_run (z := Za) sound4 (own_of sound4 Try.func88 (by kernel_rfl)) fun args v cs hF hc => ?_
  unfold signedF at hF
  split at hF
  · rename_i x y neg
    cases hF
    obtain ⟨hx0, hx1⟩ := isU_iff.1 (hc (isU x, true) (by simp))
    obtain ⟨hy0, hy1⟩ := isU_iff.1 (hc (isU y, true) (by simp))
    cases neg with
    | false =>
      have h := runSgP x y
      refine ⟨200, [], [], h.trans (sgL [] ?_ ?_ ?_), by simp⟩
      · show w64 x = w64 (wHi (wVal x y)); rw [hi_mk x y hy0 hy1]
      · show y = wLo (wVal x y); rw [lo_mk x y hy0 hy1]
      · show (x / 9223372036854775808 == 0) = isW (wVal x y)
        rw [Bool.eq_iff_iff, isW_iff, beq_iff_eq]
        exact pos_ok x y hx0 hx1 hy0 hy1
    | true =>
      have hs : sgn true (wVal x y) = -(wVal x y) := rfl
      rw [hs]
      by_cases hn : w64 (wHi (-(wVal x y))) < 0
      · have h := runSgT x y
        simp only [wr_u, wr_i, lnot x hx0 hx1, lnot y hy0 hy1, neg_hi x y, neg_lo x y] at h
        refine ⟨200, _, _, h.trans (sgL _ rfl rfl ?_), ?_⟩
        · symm; exact isW_iff.2 (neg_lt x y hx0 hx1 hy0 hy1 hn)
        · simp [hn]; omega
      · have h := runSgN x y
        simp only [wr_u, wr_i, lnot x hx0 hx1, lnot y hy0 hy1, neg_hi x y, neg_lo x y] at h
        refine ⟨200, _, _, h.trans (sgL _ rfl rfl ?_), ?_⟩
        · show (x == 0 && (y == 0 && true)) = isW (-(wVal x y))
          rw [Bool.eq_iff_iff, isW_iff, neg_ge x y hx0 hx1 hy0 hy1 hn]; simp
        · simp [hn]; omega
  · cases hF
def S5 : FuncId → Option SumK := more (more S4 85 (pureSum absF)) 88 (pureSum signedF)
theorem sound5 : Sound Try.prog S5 := (sound4.more sumAbs64).more sumSigned
end Go.Proofs.Ytdkmiliehlhmbaa
