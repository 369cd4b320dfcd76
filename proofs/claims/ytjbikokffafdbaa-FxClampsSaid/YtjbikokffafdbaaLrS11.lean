/- The local evaluator: a region that draws its order, against the model. -/
import Derived.Test.YtjbikokffafdbaaLrS10
namespace Go.Lr
open Go.RowKit

/-- An abstract state in the model. -/
structure RA (sz : Nat) (E : Env) (p : Nat → Bool) (s : AS) (a : Act) (w : World) : Prop where
  size : a.tmps.size = sz
  tm : ∀ t : Nat, a.tmps.getD t undef = (s.τ t).den E
  defers : a.defers = []
  okT : ∀ t, (s.τ t).ok p = true
  rel : Rel E s.g w
  okM : ∀ i c, s.g i = some c → p i = true ∧ okL p c.cells = true

structure ExtG (N : Nat) (w : World) (E : Env) (g : Nat → Option Blk) (w' : World) (E' : Env) (g' : Nat → Option Blk) : Prop where
  agree : ∀ i, i < N → E' i = E i
  os : w'.os = w.os
  tape : w'.tape = w.tape
  output : w'.output = w.output
  size : w.heap.size ≤ w'.heap.size
  frame : ∀ b, b < w.heap.size → (∀ i, (g i).isSome → (E i).1 ≠ b) → w'.heap[b]? = w.heap[b]?
  src : ∀ i, (g' i).isSome → w.heap.size ≤ (E' i).1 ∨ ∃ j, (g j).isSome ∧ (E' i).1 = (E j).1

theorem ExtG.refl (N : Nat) (w : World) (E : Env) (g : Nat → Option Blk) : ExtG N w E g w E g :=
  ⟨fun _ _ => rfl, rfl, rfl, rfl, Nat.le_refl _, fun _ _ _ => rfl, fun i hi => .inr ⟨i, hi, rfl⟩⟩

theorem ExtG.trans {N : Nat} {w w1 w2 : World} {E E1 E2 : Env} {g g1 g2 : Nat → Option Blk} (h : ExtG N w E g w1 E1 g1) (k : ExtG N w1 E1 g1 w2 E2 g2) : ExtG N w E g w2 E2 g2 := by
  refine ⟨fun i hi => (k.agree i hi).trans (h.agree i hi), k.os.trans h.os, k.tape.trans h.tape, k.output.trans h.output, Nat.le_trans h.size k.size, fun b hb hn => ?_, fun i hi => ?_⟩
  · rw [← h.frame b hb hn]
    refine k.frame b (Nat.lt_of_lt_of_le hb h.size) fun i hi he => ?_
    rcases h.src i hi with h1 | ⟨j, hj, h1⟩
    · omega
    · exact hn j hj (h1.symm.trans he)
  · rcases k.src i hi with h1 | ⟨j, hj, h1⟩
    · exact .inl (Nat.le_trans h.size h1)
    · rcases h.src j hj with h2 | ⟨q, hq, h2⟩
      · exact .inl (by omega)
      · exact .inr ⟨q, hq, h1.trans h2⟩

section
variable {P : Program} {S : FuncId → Option Sum} {z : Md} {ops : Array Oper}

/-- One step in the model, from whatever state it is valid in. -/
theorem step_ra (hB : BinOK P) (hS : AllOK P S) {N sz i : Nat} {E : Env} {p : Nat → Bool} {s : AS} {a : Act} {w : World} {r : Rec} (hi : ops[i]? = some r.o) (hra : RA sz E p s a w) (hv : Val P S z ops.toList r s)
    (hN : N ≤ r.nb) (hfree : ∀ i, r.nb ≤ i → i < r.nb + r.d.nw.length → p i = false) (hdst : ∀ d, r.o.dst = some d → d < sz) (hc : ∀ c ∈ r.d.cs, c.1 = c.2) (hc' : ∀ c ∈ r.gcs, c.1 = c.2)
    {K : Act → World → Prop} {Q : Exit → Act → World → Prop}
    (hk : ∀ E' a' w', RA sz E' (pn p r.nb r.d.nw.length) (r.go s) a' w' → ExtG N w E s.g w' E' (r.go s).g → K a' w') : wpOp P ops Q i K a w := by
  have hok : OkD p s.g r.nb r.d := stepD_ok hra.okT hra.okM hv
  refine stepD_wp hB hS hi hra.tm hra.okT hra.rel hra.okM hfree hv hc hc' fun E' w' hp => ?_
  have hag : ∀ i, p i = true → E' i = E i := by
    intro j hj
    refine hp.agree j ?_
    by_cases h : r.nb ≤ j ∧ j < r.nb + r.d.nw.length
    · rw [hfree j h.1 h.2] at hj; cases hj
    · omega
  refine hk E' _ w' ⟨?_, fun t => ?_, ?_, fun t => ?_, hp.rel, fun j c hj => ?_⟩ ⟨fun j hj => hp.agree j (.inl (by omega)), hp.os, hp.tape, hp.output, hp.size, hp.frame, fun j hj => ?_⟩
  · cases hd : r.o.dst <;> simp [Act.put, hra.size]
  · unfold Rec.go updτ
    cases hd : r.o.dst with
    | none =>
      simp only [Act.put]
      rw [hra.tm t, LV.den_congr hag (hra.okT t)]
    | some d =>
      simp only [Act.put]
      rw [getD_set a.tmps d t _ (by rw [hra.size]; exact hdst d hd)]
      by_cases ht : t = d
      · simp [ht]
      · rw [if_neg ht, if_neg ht, hra.tm t, LV.den_congr hag (hra.okT t)]
  · cases hd : r.o.dst <;> exact hra.defers
  · unfold Rec.go updτ
    cases hd : r.o.dst with
    | none => exact LV.ok_mono (fun _ h => pn_of h) (hra.okT t)
    | some d =>
      by_cases ht : t = d
      · simp only [ht, if_true]; exact hok.val
      · simp only [ht, if_false]; exact LV.ok_mono (fun _ h => pn_of h) (hra.okT t)
  · have hj' : nwG (wrG s.g r.d.wr) r.nb r.d.nw j = some c := hj
    rcases nwG_mem _ _ _ _ hj' with h | ⟨g1, g2, g3⟩
    · rcases wrG_mem _ _ _ h with h | ⟨x, hx, e1, e2⟩
      · exact ⟨pn_of (hra.okM j c h).1, okL_mono (fun _ h => pn_of h) (hra.okM j c h).2⟩
      · obtain ⟨c', hc''⟩ := Option.isSome_iff_exists.1 (hok.live x hx)
        rw [e1] at hc''
        exact ⟨pn_of (hra.okM j c' hc'').1, hok.wr x hx c e2⟩
    · exact ⟨by simp [pn, g1, g2], okBs_iff.1 hok.nw c g3⟩
  · obtain ⟨c, hjc⟩ := Option.isSome_iff_exists.1 hj
    have hj' : nwG (wrG s.g r.d.wr) r.nb r.d.nw j = some c := hjc
    rcases nwG_mem _ _ _ _ hj' with h | ⟨g1, g2, _⟩
    · have hlive : (s.g j).isSome := by
        rcases wrG_mem _ _ _ h with h | ⟨x, hx, e1, _⟩
        · simp [h]
        · rw [← e1]; exact hok.live x hx
      obtain ⟨c', hc''⟩ := Option.isSome_iff_exists.1 hlive
      exact .inr ⟨j, hlive, by rw [hag j (hra.okM j c' hc'').1]⟩
    · exact hp.fresh j g1 g2

/-- The operations still to come, each with its number: what is not listed. -/
structure Todo (recs : List Rec) (listed : Array Bool) (rem : List (Nat × Rec)) : Prop where
  mem : ∀ (i : Nat) (r : Rec), (i, r) ∈ rem ↔ recs[i]? = some r ∧ listed.getD i true = false
  sorted : rem.Pairwise fun x y => x.1 < y.1

theorem ranged_le : ∀ {l : List Rec} {n m : Nat}, ranged n l m → n ≤ m
  | [], n, m, h => h
  | r :: l, n, m, h => by have := ranged_le h.2; have := h.1; omega

theorem ranged_at : ∀ {l : List Rec} {n m : Nat}, ranged n l m → ∀ (i : Nat) (r : Rec), l[i]? = some r → n ≤ r.nb ∧ r.nb + r.d.nw.length ≤ m
  | [], n, m, _, i, r, h => by simp at h
  | r' :: l, n, m, h, i, r, hi => by
    cases i with
    | zero =>
      simp only [List.getElem?_cons_zero, Option.some.injEq] at hi
      subst hi
      exact ⟨h.1, ranged_le h.2⟩
    | succ i =>
      obtain ⟨h1, h2⟩ := ranged_at h.2 i r (by simpa using hi)
      exact ⟨by have := h.1; omega, h2⟩

theorem ranged_apart : ∀ {l : List Rec} {n m : Nat}, ranged n l m → ∀ (i j : Nat) (x y : Rec), i < j → l[i]? = some x → l[j]? = some y → x.nb + x.d.nw.length ≤ y.nb
  | [], n, m, _, i, j, x, y, _ => fun h => by simp at h
  | r' :: l, n, m, h, i, j, x, y, hij => by
    intro hi hj
    cases j with
    | zero => omega
    | succ j =>
      cases i with
      | zero =>
        simp only [List.getElem?_cons_zero, Option.some.injEq] at hi
        subst hi
        exact (ranged_at h.2 j y (by simpa using hj)).1
      | succ i => exact ranged_apart h.2 i j x y (by omega) (by simpa using hi) (by simpa using hj)

theorem split_at {rem : List (Nat × Rec)} {i : Nat} {r : Rec} (h : (i, r) ∈ rem) : ∃ A B, rem = A ++ (i, r) :: B := List.append_of_mem h

theorem draw_main (hB : BinOK P) (hS : AllOK P S) {N sz M : Nat} {recs : List Rec} (hrec : recs.map (·.o) = ops.toList) (hdown : opsDown 0 ops.toList = true)
    (hconf : ∀ (i j : Nat) (x y : Rec), i < j → recs[i]? = some x → recs[j]? = some y → conf ops.toList x y = true → ((masksOf ops.toList []).getD j 0).testBit i = true)
    (hrng : ranged N recs M) (hdst : ∀ r ∈ recs, ∀ d, r.o.dst = some d → d < sz) (hcs : ∀ r ∈ recs, (∀ c ∈ r.d.cs, c.1 = c.2) ∧ (∀ c ∈ r.gcs, c.1 = c.2)) {Q : Exit → Act → World → Prop} :
    ∀ (fuel : Nat) (rem : List (Nat × Rec)) (listed : Array Bool) (s : AS) (E : Env) (p : Nat → Bool) (a : Act) (w : World), rem.length = fuel → listed.size = ops.size → Todo recs listed rem →
      (∀ k o, ops[k]? = some o → listed.getD k true = true → ∀ e ∈ o.after.toList, Region.binds .any e = true → listed.getD e.on false = true) →
      chain P S z ops.toList (rem.map (·.2)) s → RA sz E p s a w → (∀ i, p i = true → i < M) → (∀ i, p i = true → ∀ x ∈ rem, ¬(x.2.nb ≤ i ∧ i < x.2.nb + x.2.d.nw.length)) →
      (∀ E' p' a' w', RA sz E' p' (fin (rem.map (·.2)) s) a' w' → (∀ i, p' i = true → i < M) → ExtG N w E s.g w' E' (fin (rem.map (·.2)) s).g → Q .normal a' w') →
      wpAny P .any ops Q fuel listed a w := by
  have hopsrec : ∀ (i : Nat) (r : Rec), recs[i]? = some r → ops[i]? = some r.o := by
    intro i r h
    have : (recs.map (·.o))[i]? = some r.o := by simp [h]
    rw [hrec] at this
    simpa using this
  have hlen : recs.length = ops.size := by have := congrArg List.length hrec; simpa using this
  -- an operation that is not listed, the first of them: ready
  have hready0 : ∀ (rem : List (Nat × Rec)) (listed : Array Bool), listed.size = ops.size → Todo recs listed rem → Region.ready .any ops listed = [] → rem = [] := by
    intro rem listed hls ht hr
    cases rem with
    | nil => rfl
    | cons x rem =>
      exfalso
      obtain ⟨i, r⟩ := x
      obtain ⟨h1, h2⟩ := (ht.mem i r).1 (by simp)
      have hops := hopsrec i r h1
      have hi : i < ops.size := (Array.getElem?_eq_some_iff.1 hops).1
      have hmem : i ∈ Region.ready .any ops listed := by
        unfold Region.ready
        simp only [List.mem_filter, List.mem_range, hi, true_and, h2, Bool.not_false, hops, Option.map_some, Option.getD_some, Bool.true_and]
        rw [Array.all_eq_true]
        intro k hk
        by_cases hb : Region.binds .any r.o.after[k] = true
        · have hlt := opsDown_spec hdown i r.o (by simpa using hops) r.o.after[k] (by simp) hb
          simp only [Nat.zero_add] at hlt
          have hlst : listed.getD r.o.after[k].on false = true := by
            have hsz : r.o.after[k].on < listed.size := by omega
            cases hh : listed.getD r.o.after[k].on true with
            | true =>
              have e1 : listed.getD r.o.after[k].on false = listed.getD r.o.after[k].on true := by simp [hsz]
              rw [e1]; exact hh
            | false =>
              exfalso
              have hql : r.o.after[k].on < recs.length := by omega
              obtain ⟨q, hq⟩ : ∃ q, recs[r.o.after[k].on]? = some q := ⟨_, List.getElem?_eq_getElem hql⟩
              have := (ht.mem _ q).2 ⟨hq, hh⟩
              rcases List.mem_cons.1 this with he | he
              · injection he with e1 _; omega
              · have := List.rel_of_pairwise_cons ht.sorted he
                simp only at this
                omega
          simp [hlst]
        · simp [hb]
      rw [hr] at hmem
      cases hmem
  intro fuel
  induction fuel with
  | zero =>
    intro rem listed s E p a w hf hls ht hcl hch hra hpM hpf hQ
    have hrem : rem = [] := List.length_eq_zero_iff.1 hf
    subst hrem
    refine ⟨?_, hQ E p a w hra hpM (.refl _ _ _ _)⟩
    cases hr : Region.ready .any ops listed with
    | nil => rfl
    | cons i l =>
      exfalso
      have hi : i ∈ Region.ready .any ops listed := by rw [hr]; simp
      unfold Region.ready at hi
      simp only [List.mem_filter, List.mem_range, Bool.and_eq_true, Bool.not_eq_true'] at hi
      have hql : i < recs.length := by omega
      obtain ⟨q, hq⟩ : ∃ q, recs[i]? = some q := ⟨_, List.getElem?_eq_getElem hql⟩
      have := (ht.mem i q).2 ⟨hq, hi.2.1⟩
      cases this
  | succ fuel ih =>
    intro rem listed s E p a w hf hls ht hcl hch hra hpM hpf hQ
    refine ⟨fun hr => ?_, fun i hi => ?_⟩
    · have := hready0 rem listed hls ht hr
      rw [this] at hf
      simp at hf
    · unfold Region.ready at hi
      simp only [List.mem_filter, List.mem_range, Bool.and_eq_true, Bool.not_eq_true'] at hi
      obtain ⟨hilt, hnl, haft⟩ := hi
      have hql : i < recs.length := by omega
      obtain ⟨r, hr⟩ : ∃ q, recs[i]? = some q := ⟨_, List.getElem?_eq_getElem hql⟩
      have hops := hopsrec i r hr
      have hin : (i, r) ∈ rem := (ht.mem i r).2 ⟨hr, hnl⟩
      have hedges : ∀ e ∈ r.o.after.toList, Region.binds .any e = true → listed.getD e.on false = true := by
        intro e he hb
        rw [hops] at haft
        simp only [Option.map_some, Option.getD_some] at haft
        rw [Array.all_eq_true'] at haft
        have := haft e (by simpa using he)
        simpa [hb] using this
      obtain ⟨A, B, rfl⟩ := split_at hin
      have hsorted := ht.sorted
      rw [List.pairwise_append] at hsorted
      obtain ⟨_, hsB, hAB⟩ := hsorted
      have hapart : ∀ x ∈ A.map (·.2), Apart ops.toList x r := by
        intro x hx
        obtain ⟨⟨k, x'⟩, hk, rfl⟩ := List.mem_map.1 hx
        obtain ⟨g1, g2⟩ := (ht.mem k x').1 (by simp [hk])
        have hki : k < i := hAB (k, x') hk (i, r) (by simp)
        refine conf_apart ?_
        cases hc : conf ops.toList x' r with
        | false => rfl
        | true =>
          exfalso
          have hbit := hconf k i x' r hki g1 hr hc
          have := mask_listed hdown (fun q => listed.getD q true = true) (fun q o hq hl e he hb => by
            have hx := hcl q o (by simpa using hq) hl e he hb
            have hsz : e.on < listed.size := by
              by_cases hh : e.on < listed.size
              · exact hh
              · simp [Array.getD, hh] at hx
            simpa [hsz] using hx) i r.o (by simpa using hops) (fun e he hb => by
            have hx := hedges e he hb
            have hsz : e.on < listed.size := by
              by_cases hh : e.on < listed.size
              · exact hh
              · simp [Array.getD, hh] at hx
            simpa [hsz] using hx) k hbit
          rw [g2] at this
          cases this
      rw [List.map_append, List.map_cons] at hch hQ
      obtain ⟨c1, c2, c3⟩ := chain_front hch hapart
      have hrin : r ∈ recs := List.mem_of_getElem? hr
      refine step_ra hB hS (N := N) hops hra c1 (ranged_at hrng i r hr).1 (fun j h1 h2 => ?_) (hdst r hrin) (hcs r hrin).1 (hcs r hrin).2 fun E' a' w' hra' hext => ?_
      · cases hpj : p j with
        | false => rfl
        | true => exact absurd ⟨h1, h2⟩ (hpf j hpj (i, r) (by simp))
      · have hsz' : (listed.setIfInBounds i true).size = ops.size := by simp [hls]
        have hget : ∀ q d, (listed.setIfInBounds i true).getD q d = if q = i then true else listed.getD q d := by
          intro q d
          by_cases hq : q = i
          · subst hq
            have : q < listed.size := by omega
            simp [this]
          · rw [if_neg hq]
            simp [Array.getElem?_setIfInBounds_ne (Ne.symm hq)]
        refine ih (A ++ B) (listed.setIfInBounds i true) (r.go s) E' _ a' w' (by simp at hf ⊢; omega) hsz' ⟨fun j x => ?_, ?_⟩ (fun k o hk hl e he hb => ?_) (by rw [List.map_append]; exact c2) hra' (fun j hj => ?_) (fun j hj x hx => ?_) ?_
        · rw [hget j true]
          have hm := ht.mem j x
          by_cases hji : j = i
          · subst hji
            rw [if_pos rfl]
            refine ⟨fun h => ?_, fun h => absurd h.2 (by simp)⟩
            exfalso
            rcases List.mem_append.1 h with h | h
            · have := hAB (j, x) h (j, r) (by simp)
              simp at this
            · have := List.rel_of_pairwise_cons hsB h
              simp at this
          · rw [if_neg hji, ← hm]
            constructor
            · intro h
              rcases List.mem_append.1 h with h | h
              · simp [h]
              · simp [h]
            · intro h
              rcases List.mem_append.1 h with h | h
              · simp [h]
              · rcases List.mem_cons.1 h with h | h
                · injection h with e1 _; exact absurd e1 hji
                · simp [h]
        · refine ht.sorted.sublist ?_
          exact List.Sublist.append_left (List.sublist_cons_self _ _) A
        · rw [hget] at hl ⊢
          by_cases hki : k = i
          · subst hki
            rw [hops] at hk
            cases hk
            have := hedges e he hb
            by_cases he' : e.on = k <;> simp [he', this]
          · rw [if_neg hki] at hl
            have := hcl k o hk hl e he hb
            by_cases he' : e.on = i <;> simp [he', this]
        · simp only [pn, Bool.or_eq_true, Bool.and_eq_true, decide_eq_true_eq] at hj
          rcases hj with hj | hj
          · exact hpM j hj
          · have := (ranged_at hrng i r hr).2; omega
        · simp only [pn, Bool.or_eq_true, Bool.and_eq_true, decide_eq_true_eq] at hj
          have hxin : x ∈ A ++ (i, r) :: B := by
            rcases List.mem_append.1 hx with h | h
            · simp [h]
            · simp [h]
          rcases hj with hj | hj
          · exact hpf j hj x hxin
          · intro hcon
            obtain ⟨k, y⟩ := x
            obtain ⟨g1, _⟩ := (ht.mem k y).1 hxin
            have hne : k ≠ i := by
              rintro rfl
              rcases List.mem_append.1 hx with h | h
              · have := hAB (k, y) h (k, r) (by simp); simp at this
              · have := List.rel_of_pairwise_cons hsB h; simp at this
            rcases Nat.lt_or_gt_of_ne hne with hlt | hlt
            · have := ranged_apart hrng k i y r hlt g1 hr; simp only at hcon; omega
            · have := ranged_apart hrng i k r y hlt hr g1; simp only at hcon; omega
        · intro E'' p'' a'' w'' h1 h2 h3
          rw [List.map_append] at h1 h3
          rw [← c3] at h1 h3
          exact hQ E'' p'' a'' w'' h1 h2 (hext.trans h3)

end
end Go.Lr
