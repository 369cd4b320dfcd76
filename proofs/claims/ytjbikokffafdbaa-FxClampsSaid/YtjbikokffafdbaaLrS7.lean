/- The local evaluator's steps: states, their relation to the model's, and how it goes from one to the next. -/
import Derived.Test.YtjbikokffafdbaaLrS6
import Derived.LoopN
namespace Go.Lr
open Go.RowKit

def below (n : Nat) : Nat → Bool := fun i => decide (i < n)

/-- The memory of a state, in the model's world. -/
structure MRel (E : Env) (s : St) (w : World) : Prop where
  rel : Rel E (getM s.mem) w
  okM : ∀ i b, getM s.mem i = some b → i < s.nb ∧ okL (below s.nb) b.cells = true
  uq : uniq s.mem

structure R (E : Env) (s : St) (a : Act) (w : World) : Prop where
  size : a.tmps.size = s.sz
  le : s.sz ≤ 60000
  tm : ∀ t : Nat, a.tmps.getD t undef = (getT s.tm t).den E
  defers : a.defers = []
  okT : ∀ t, (getT s.tm t).ok (below s.nb) = true
  m : MRel E s w

structure Ext (w : World) (E : Env) (s : St) (w' : World) (E' : Env) (s' : St) : Prop where
  nb : s.nb ≤ s'.nb
  agree : ∀ i, i < s.nb → E' i = E i
  os : w'.os = w.os
  tape : w'.tape = w.tape
  output : w'.output = w.output
  size : w.heap.size ≤ w'.heap.size
  frame : ∀ b, b < w.heap.size → (∀ i, (getM s.mem i).isSome → (E i).1 ≠ b) → w'.heap[b]? = w.heap[b]?
  src : ∀ i, (getM s'.mem i).isSome → w.heap.size ≤ (E' i).1 ∨ ∃ j, (getM s.mem j).isSome ∧ (E' i).1 = (E j).1

theorem Ext.refl (w : World) (E : Env) (s : St) : Ext w E s w E s :=
  ⟨Nat.le_refl _, fun _ _ => rfl, rfl, rfl, rfl, Nat.le_refl _, fun _ _ _ => rfl, fun i hi => .inr ⟨i, hi, rfl⟩⟩

theorem Ext.trans {w w1 w2 : World} {E E1 E2 : Env} {s s1 s2 : St} (h : Ext w E s w1 E1 s1) (k : Ext w1 E1 s1 w2 E2 s2) : Ext w E s w2 E2 s2 := by
  refine ⟨Nat.le_trans h.nb k.nb, fun i hi => (k.agree i (Nat.lt_of_lt_of_le hi h.nb)).trans (h.agree i hi), k.os.trans h.os, k.tape.trans h.tape, k.output.trans h.output, Nat.le_trans h.size k.size, fun b hb hn => ?_, fun i hi => ?_⟩
  · rw [← h.frame b hb hn]
    refine k.frame b (Nat.lt_of_lt_of_le hb h.size) fun i hi he => ?_
    rcases h.src i hi with h1 | ⟨j, hj, h1⟩
    · omega
    · exact hn j hj (h1.symm.trans he)
  · rcases k.src i hi with h1 | ⟨j, hj, h1⟩
    · exact .inl (Nat.le_trans h.size h1)
    · rcases h.src j hj with h2 | ⟨q, hq, h2⟩
      · exact .inl (by omega)
      · exact .inr ⟨q, hq, h1.trans h2⟩

/-- All that was asked holds. -/
def Good (s : St) : Prop := ∀ c ∈ s.cs, c.1 = c.2

-- the evaluator's ways of speaking
theorem putAllK_eq {β : Type} : ∀ (m : Mem) (l : List (Nat × Option Blk)) (k : Mem → β), putAllK m l k = k (putAll m l)
  | _, [], _ => rfl
  | m, (i, s) :: l, k => by simp only [putAllK, putAll, setMK_eq, putAllK_eq]

theorem newAllK_eq {β : Type} : ∀ (m : Mem) (nb : Nat) (l : List Blk) (k : Mem → Nat → β), newAllK m nb l k = k (newAll m nb l) (nb + l.length)
  | _, _, [], _ => rfl
  | m, nb, b :: l, k => by
    simp only [newAllK, newAll, forceN_eq, newAllK_eq, List.length_cons]
    congr 1
    omega

theorem csK_spec {β : Type} : ∀ {z : Bool} {l old : List (Bool × Bool)} {k : List (Bool × Bool) → Option β} {r : β}, csK z l old k = some r →
    ∃ new, k new = some r ∧ ((∀ c ∈ new, c.1 = c.2) → (∀ c ∈ l, c.1 = c.2) ∧ (∀ c ∈ old, c.1 = c.2))
  | z, [], old, k, r, h => ⟨old, by cases z <;> exact h, fun hc => ⟨by simp, hc⟩⟩
  | false, c :: l, old, k, r, h => by
    simp only [csK] at h
    obtain ⟨new, h1, h2⟩ := csK_spec h
    refine ⟨c :: new, h1, fun hc => ?_⟩
    have := h2 fun x hx => hc x (by simp [hx])
    refine ⟨fun x hx => ?_, this.2⟩
    rcases List.mem_cons.1 hx with rfl | hx
    · exact hc x (by simp)
    · exact this.1 x hx
  | true, (true, true) :: l, old, k, r, h => by
    simp only [csK] at h
    obtain ⟨new, h1, h2⟩ := csK_spec h
    refine ⟨new, h1, fun hc => ⟨fun x hx => ?_, (h2 hc).2⟩⟩
    rcases List.mem_cons.1 hx with rfl | hx
    · rfl
    · exact (h2 hc).1 x hx
  | true, (false, false) :: l, old, k, r, h => by
    simp only [csK] at h
    obtain ⟨new, h1, h2⟩ := csK_spec h
    refine ⟨new, h1, fun hc => ⟨fun x hx => ?_, (h2 hc).2⟩⟩
    rcases List.mem_cons.1 hx with rfl | hx
    · rfl
    · exact (h2 hc).1 x hx
  | true, (true, false) :: l, old, k, r, h => by simp [csK] at h
  | true, (false, true) :: l, old, k, r, h => by simp [csK] at h

-- memory
theorem uniq_putAll : ∀ (l : List (Nat × Option Blk)) (m : Mem), uniq m → uniq (putAll m l)
  | [], _, h => h
  | (i, s) :: l, m, h => uniq_putAll l _ (uniq_setM m i s h)

theorem getM_putAll : ∀ (l : List (Nat × Option Blk)) (m : Mem), uniq m → (∀ x ∈ l, (getM m x.1).isSome) → (l.map (·.1)).Nodup → ∀ k, getM (putAll m l) k = wrG (getM m) l k
  | [], _, _, _, _, _ => rfl
  | (i, s) :: l, m, hu, hl, hn, k => by
    have hi : (getM m i).isSome := hl (i, s) (by simp)
    have hset : ∀ j, getM (setM m i s) j = if j = i then s else getM m j := fun j => getM_setM m i s j hu hi
    simp only [List.map_cons, List.nodup_cons] at hn
    simp only [putAll, wrG]
    rw [getM_putAll l _ (uniq_setM m i s hu) (fun x hx => by
      rw [hset, if_neg (fun e => hn.1 (by rw [← e]; exact List.mem_map_of_mem hx))]
      exact hl x (by simp [hx])) hn.2 k]
    congr 1
    funext j
    exact hset j

theorem getM_newAll : ∀ (l : List Blk) (m : Mem) (nb : Nat) (k : Nat), getM (newAll m nb l) k = nwG (getM m) nb l k
  | [], _, _, _ => rfl
  | b :: l, m, nb, k => by
    simp only [newAll, nwG]
    rw [getM_newAll l]
    congr 1
    funext j
    exact getM_cons nb b m j

theorem uniq_newAll : ∀ (l : List Blk) (m : Mem) (nb : Nat), uniq m → (∀ i, nb ≤ i → getM m i = none) → uniq (newAll m nb l)
  | [], _, _, h, _ => h
  | b :: l, m, nb, h, hf => by
    refine uniq_newAll l _ (nb + 1) ⟨hf nb (Nat.le_refl _), h⟩ fun i hi => ?_
    rw [getM_cons, if_neg (by omega)]
    exact hf i (by omega)

theorem wrG_none {g : Nat → Option Blk} : ∀ (l : List (Nat × Option Blk)) (k : Nat), (∀ x ∈ l, x.1 ≠ k) → wrG g l k = g k
  | [], _, _ => rfl
  | (i, s) :: l, k, h => by
    simp only [wrG]
    have hne : ¬ k = i := fun e => h (i, s) (by simp) e.symm
    have : (fun j => if j = i then s else g j) k = g k := by simp [hne]
    rw [← this]
    exact wrG_none (g := fun j => if j = i then s else g j) l k fun x hx => h x (by simp [hx])

theorem wrG_mem {g : Nat → Option Blk} : ∀ (l : List (Nat × Option Blk)) (k : Nat) (b : Blk), wrG g l k = some b → g k = some b ∨ ∃ x ∈ l, x.1 = k ∧ x.2 = some b
  | [], _, _, h => .inl h
  | (i, s) :: l, k, b, h => by
    simp only [wrG] at h
    rcases wrG_mem l k b h with h | ⟨x, hx, h1, h2⟩
    · by_cases hk : k = i
      · rw [if_pos hk] at h; exact .inr ⟨(i, s), by simp, hk.symm, h⟩
      · rw [if_neg hk] at h; exact .inl h
    · exact .inr ⟨x, by simp [hx], h1, h2⟩

theorem nwG_mem {g : Nat → Option Blk} : ∀ (l : List Blk) (nb k : Nat) (b : Blk), nwG g nb l k = some b → g k = some b ∨ (nb ≤ k ∧ k < nb + l.length ∧ b ∈ l)
  | [], _, _, _, h => .inl h
  | c :: l, nb, k, b, h => by
    simp only [nwG] at h
    rcases nwG_mem l (nb + 1) k b h with h | ⟨h1, h2, h3⟩
    · by_cases hk : k = nb
      · rw [if_pos hk] at h; cases h; exact .inr ⟨by omega, by simp; omega, by simp⟩
      · rw [if_neg hk] at h; exact .inl h
    · exact .inr ⟨by omega, by simp; omega, by simp [h3]⟩

theorem below_pn {nb k i : Nat} (h : pn (below nb) nb k i = true) : below (nb + k) i = true := by
  simp only [pn, below, Bool.or_eq_true, decide_eq_true_eq, Bool.and_eq_true] at h ⊢
  omega

section
variable {P : Program} {E : Env} {a : Act} {w : World}

/-- The state behind an operation, in the model's world. -/
theorem MRel.post {s : St} {d : Dl} {E' : Env} {w' : World} {tm : Tr} {sz : Nat} {dec : List (Option Bool)} {cs : List (Bool × Bool)} (hm : MRel E s w) (hd : OkD (below s.nb) (getM s.mem) s.nb d) (hp : Post w E (getM s.mem) s.nb d E' w') :
    MRel E' ⟨tm, sz, newAll (putAll s.mem d.wr) s.nb d.nw, s.nb + d.nw.length, dec, cs⟩ w' ∧ Ext w E s w' E' ⟨tm, sz, newAll (putAll s.mem d.wr) s.nb d.nw, s.nb + d.nw.length, dec, cs⟩ := by
  have hfree : ∀ i, s.nb ≤ i → getM s.mem i = none := by
    intro i hi
    cases h : getM s.mem i with
    | none => rfl
    | some b => have := (hm.okM i b h).1; omega
  have hget : getM (newAll (putAll s.mem d.wr) s.nb d.nw) = nwG (wrG (getM s.mem) d.wr) s.nb d.nw := by
    funext k
    rw [getM_newAll]
    congr 1
    funext j
    exact getM_putAll d.wr s.mem hm.uq hd.live hd.nd j
  have hsrc : ∀ i b, nwG (wrG (getM s.mem) d.wr) s.nb d.nw i = some b →
      ((getM s.mem i).isSome ∧ (getM s.mem i = some b ∨ ∃ x ∈ d.wr, x.1 = i ∧ x.2 = some b)) ∨ (s.nb ≤ i ∧ i < s.nb + d.nw.length ∧ b ∈ d.nw) := by
    intro i b h
    rcases nwG_mem _ _ _ _ h with h | h
    · rcases wrG_mem _ _ _ h with h | ⟨x, hx, h1, h2⟩
      · exact .inl ⟨by simp [h], .inl h⟩
      · exact .inl ⟨by rw [← h1]; exact hd.live x hx, .inr ⟨x, hx, h1, h2⟩⟩
    · exact .inr h
  refine ⟨⟨by rw [hget]; exact hp.rel, fun i b h => ?_, ?_⟩, ⟨Nat.le_add_right _ _, fun i hi => hp.agree i (.inl hi), hp.os, hp.tape, hp.output, hp.size, hp.frame, fun i hi => ?_⟩⟩
  · rw [hget] at h
    rcases hsrc i b h with ⟨h0, h1 | ⟨x, hx, h1, h2⟩⟩ | ⟨h1, h2, h3⟩
    · obtain ⟨g1, g2⟩ := hm.okM i b h1
      exact ⟨by show i < s.nb + _; omega, okL_mono (fun j hj => below_pn (pn_of hj)) g2⟩
    · obtain ⟨c, hc⟩ := Option.isSome_iff_exists.1 h0
      have g1 := (hm.okM i c hc).1
      exact ⟨by show i < s.nb + _; omega, okL_mono (fun j hj => below_pn hj) (hd.wr x hx b h2)⟩
    · exact ⟨h2, okL_mono (fun j hj => below_pn hj) (okBs_iff.1 hd.nw b h3)⟩
  · refine uniq_newAll _ _ _ (uniq_putAll _ _ hm.uq) fun i hi => ?_
    rw [getM_putAll d.wr s.mem hm.uq hd.live hd.nd i, wrG_none]
    · exact hfree i hi
    · intro x hx e
      have := hd.live x hx
      rw [e, hfree i hi] at this
      cases this
  · obtain ⟨b, hb⟩ := Option.isSome_iff_exists.1 hi
    rw [hget] at hb
    rcases hsrc i b hb with ⟨h0, _⟩ | ⟨h1, h2, _⟩
    · obtain ⟨c, hc⟩ := Option.isSome_iff_exists.1 h0
      exact .inr ⟨i, h0, by rw [hp.agree i (.inl (hm.okM i c hc).1)]⟩
    · exact hp.fresh i h1 h2

def updτ (τ : Nat → LV) (dst : Option Tmp) (v : LV) : Nat → LV :=
  match dst with
  | some d => fun t => if t = d then v else τ t
  | none => τ

theorem lt16 (d sz : Nat) (h1 : d < sz) (h2 : sz ≤ 60000) : d + 1 < 2 ^ 16 := by omega

theorem getD_set (xs : Array Value) (d t : Nat) (v : Value) (hd : d < xs.size) : (xs.setIfInBounds d v).getD t undef = if t = d then v else xs.getD t undef := by
  by_cases h : t = d
  · subst h
    simp [hd]
  · rw [if_neg h]
    simp [Array.getElem?_setIfInBounds_ne (Ne.symm h)]

theorem put_tm {s : St} (hsz : a.tmps.size = s.sz) (hle : s.sz ≤ 60000) {dst : Option Tmp} {v : LV} {β : Type} {k : Tr → Option β} {r : β} (h : putDK s dst v k = some r) :
    ∃ tm, k tm = some r ∧ (getT tm = updτ (getT s.tm) dst v ∧ ∀ d, dst = some d → d < s.sz) ∧ ∀ E' : Env, (a.put dst (v.den E')).tmps.size = s.sz ∧
      ((∀ t : Nat, a.tmps.getD t undef = (getT s.tm t).den E') → ∀ t : Nat, (a.put dst (v.den E')).tmps.getD t undef = (getT tm t).den E') := by
  unfold putDK at h
  split at h
  · rename_i d
    split at h
    · rename_i hlt
      rw [nblt] at hlt
      have hlt' : d < s.sz := by simpa using hlt
      rw [setTK_eq] at h
      refine ⟨_, h, ⟨?_, fun d' hd => by cases hd; exact hlt'⟩, fun E' => ⟨by simp [Act.put, hsz], fun ht t => ?_⟩⟩
      · funext t
        exact getT_setT 16 s.tm d v t (lt16 d s.sz hlt' hle)
      · rw [getT_setT 16 s.tm d v t (lt16 d s.sz hlt' hle)]
        simp only [Act.put]
        rw [getD_set a.tmps d t _ (by rw [hsz]; exact hlt')]
        by_cases hh : t = d
        · rw [if_pos hh, if_pos hh]
        · rw [if_neg hh, if_neg hh, ht t]
    · cases h
  · exact ⟨s.tm, h, ⟨rfl, fun d hd => by cases hd⟩, fun E' => ⟨hsz, fun ht t => ht t⟩⟩

theorem appK_spec {β : Type} {z : Md} {s : St} {dst : Option Tmp} {d : Dl} {dec : List (Option Bool)} {cs : List (Bool × Bool)} {k : St → Option β} {r : β} (hsz : a.tmps.size = s.sz) (hle : s.sz ≤ 60000)
    (h : appK z s dst d dec cs k = some r) :
    ∃ s1, k s1 = some r ∧ (Good s1 → (∀ c ∈ d.cs, c.1 = c.2) ∧ (∀ c ∈ cs, c.1 = c.2) ∧ Good s) ∧ s1.dec = dec ∧ s1.sz = s.sz ∧ s1.nb = s.nb + d.nw.length ∧ s1.mem = newAll (putAll s.mem d.wr) s.nb d.nw ∧
      (getT s1.tm = updτ (getT s.tm) dst d.val ∧ ∀ d', dst = some d' → d' < s.sz) ∧
      ∀ E', (a.put dst (d.val.den E')).tmps.size = s.sz ∧ ((∀ t : Nat, a.tmps.getD t undef = (getT s.tm t).den E') → ∀ t : Nat, (a.put dst (d.val.den E')).tmps.getD t undef = (getT s1.tm t).den E') := by
  unfold appK at h
  rw [forceV_eq] at h
  obtain ⟨tm, h1, h2, h7⟩ := put_tm hsz hle h
  rw [putAllK_eq, newAllK_eq] at h1
  obtain ⟨c1, h3, h4⟩ := csK_spec h1
  obtain ⟨c2, h5, h6⟩ := csK_spec h3
  refine ⟨_, h5, fun hg => ?_, rfl, rfl, rfl, rfl, h2, h7⟩
  have g1 := h6 hg
  have g2 := h4 g1.2
  exact ⟨g2.1, g1.1, g2.2⟩

end
end Go.Lr
