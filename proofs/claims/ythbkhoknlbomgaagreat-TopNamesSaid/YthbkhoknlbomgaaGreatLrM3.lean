/- Joined texts. What each part proves stands ahead of it; no condition. -/
import Derived.Test.YthbkhoknlbomgaaGreatLrM2
import Derived.Test.YthbkhoknlbomgaaGreatLrM1
import Derived.Test.YthbkhoknlbomgaaGreatProg

/- The local evaluator, piece by piece: from one known state to the next; loops by induction. -/
namespace Go.Lr
open Go.RowKit
def deadT : Nat → (Nat → LV) → Tr
  | 0, _ => .nil
  | d + 1, f => .nd (f 0) (deadT d fun j => f (2 * j + 1)) (deadT d fun j => f (2 * j + 2))
theorem getT_deadT : ∀ (d : Nat) (f : Nat → LV) (t : Nat), getT (deadT d f) t = if t + 1 < 2 ^ d then f t else undefL
  | 0, f, t => by simp [deadT, getT_nil]
  | d + 1, f, 0 => by
    have : 0 < 2 ^ d := Nat.two_pow_pos d
    rw [if_pos (by rw [Nat.pow_succ]; omega)]; rfl
  | d + 1, f, t + 1 => by
    simp only [deadT]
    rw [getT_succ_nd]
    have hp : 2 ^ (d + 1) = 2 * 2 ^ d := by rw [Nat.pow_succ]; omega
    by_cases h : t % 2 = 0
    · rw [if_pos h, getT_deadT d]
      by_cases k : t / 2 + 1 < 2 ^ d
      · rw [if_pos k, if_pos (by omega)]; congr 1; omega
      · rw [if_neg k, if_neg (by omega)]
    · rw [if_neg h, getT_deadT d]
      by_cases k : t / 2 + 1 < 2 ^ d
      · rw [if_pos k, if_pos (by omega)]; congr 1; omega
      · rw [if_neg k, if_neg (by omega)]
def canT : List (Nat × LV) → Tr → Tr
  | [], T => T
  | (i, v) :: l, T => canT l (setT 16 T i v)
theorem getT_canT : ∀ (l : List (Nat × LV)) (T : Tr) (t : Nat), (∀ q ∈ l, q.1 < 60000) → (l.map (·.1)).Nodup →
    (∀ q ∈ l, q.1 = t → getT (canT l T) t = q.2) ∧ ((∀ q ∈ l, q.1 ≠ t) → getT (canT l T) t = getT T t)
  | [], T, t, _, _ => ⟨fun q hq => (by cases hq), fun _ => rfl⟩
  | (i, v) :: l, T, t, hlt, hnd => by
    simp only [List.map_cons, List.nodup_cons] at hnd
    obtain ⟨h1, h2⟩ := getT_canT l (setT 16 T i v) t (fun q hq => hlt q (List.mem_cons_of_mem _ hq)) hnd.2
    have hi : i < 60000 := hlt (i, v) (List.mem_cons_self ..)
    have hs := getT_setT 16 T i v t (by omega)
    refine ⟨fun q hq he => ?_, fun hne => ?_⟩
    · rcases List.mem_cons.1 hq with rfl | hq
      · have he' : i = t := he
        show getT (canT l (setT 16 T i v)) t = v
        rw [h2 fun q' hq' e => hnd.1 (by rw [he', ← e]; exact List.mem_map_of_mem hq'), hs, if_pos he'.symm]
      · exact h1 q hq he
    · show getT (canT l (setT 16 T i v)) t = _
      rw [h2 fun q hq => hne q (List.mem_cons_of_mem _ hq), hs, if_neg (fun e => hne (i, v) (List.mem_cons_self ..) e.symm)]
structure Kst where
  live : List (Nat × LV)
  mem : Mem
  nb : Nat
def Kst.tm (A : Kst) (dead : Nat → Value) : Tr := canT A.live (deadT 16 fun t => .v (.one (.opq (dead t))))
def Kst.st (A : Kst) (sz : Nat) (dead : Nat → Value) (dec : List (Option Bool)) : St := ⟨A.tm dead, sz, A.mem, A.nb, dec, [], []⟩
def Kst.ms (A : Kst) : St := ⟨.nil, 0, A.mem, A.nb, [], [], []⟩
structure KstOK (A : Kst) : Prop where
  lt : ∀ q ∈ A.live, q.1 < 60000
  nd : (A.live.map (·.1)).Nodup
  okT : ∀ q ∈ A.live, q.2.ok (below A.nb) = true
  okM : ∀ i b, getM A.mem i = some b → i < A.nb ∧ okL (below A.nb) b.cells = true
  uq : uniq A.mem
def memOKb (nb : Nat) : Mem → Bool
  | [] => true
  | (i, b) :: m => match Nat.blt i nb with
    | true => match okL (below nb) b.cells with
      | true => match getM m i with
        | none => memOKb nb m
        | some _ => false
      | false => false
    | false => false
def liveOKb (nb : Nat) : List (Nat × LV) → Bool
  | [] => true
  | (i, v) :: l => match Nat.blt i 60000 with
    | true => match v.ok (below nb) with
      | true => match memB (l.map (·.1)) i with
        | true => false
        | false => liveOKb nb l
      | false => false
    | false => false
def canB (A : Kst) : Bool :=
  match liveOKb A.nb A.live with
  | true => memOKb A.nb A.mem
  | false => false
theorem memB_false : ∀ {l : List Nat} {a : Nat}, memB l a = false → a ∉ l
  | [], a, _ => by simp
  | b :: l, a, h => by
    simp only [memB, nbeq] at h
    by_cases hab : b = a
    · simp [hab] at h
    · simp only [hab, decide_false] at h
      simp only [List.mem_cons, not_or]
      exact ⟨fun e => hab e.symm, memB_false h⟩
theorem memOKb_ok : ∀ {nb : Nat} {m : Mem}, memOKb nb m = true → (∀ i b, getM m i = some b → i < nb ∧ okL (below nb) b.cells = true) ∧ uniq m
  | nb, [], _ => ⟨fun i b h => by simp [getM] at h, trivial⟩
  | nb, (j, c) :: m, h => by
    simp only [memOKb] at h
    split at h
    · rename_i h1
      split at h
      · rename_i h2
        split at h
        · rename_i h3
          obtain ⟨g1, g2⟩ := memOKb_ok h
          refine ⟨fun i b hb => ?_, h3, g2⟩
          rw [getM_cons] at hb
          by_cases hij : i = j
          · rw [if_pos hij] at hb; cases hb
            rw [nblt] at h1
            exact ⟨by rw [hij]; simpa using h1, h2⟩
          · rw [if_neg hij] at hb; exact g1 i b hb
        · cases h
      · cases h
    · cases h
theorem liveOKb_ok : ∀ {nb : Nat} {l : List (Nat × LV)}, liveOKb nb l = true → (∀ q ∈ l, q.1 < 60000) ∧ (l.map (·.1)).Nodup ∧ (∀ q ∈ l, q.2.ok (below nb) = true)
  | nb, [], _ => ⟨by simp, by simp, by simp⟩
  | nb, (i, v) :: l, h => by
    simp only [liveOKb] at h
    split at h
    · rename_i h1
      split at h
      · rename_i h2
        split at h
        · cases h
        · rename_i h3
          obtain ⟨g1, g2, g3⟩ := liveOKb_ok h
          rw [nblt] at h1
          have h1' : i < 60000 := by simpa using h1
          refine ⟨fun q hq => ?_, ?_, fun q hq => ?_⟩
          · rcases List.mem_cons.1 hq with rfl | hq
            · exact h1'
            · exact g1 q hq
          · simp only [List.map_cons, List.nodup_cons]
            exact ⟨memB_false h3, g2⟩
          · rcases List.mem_cons.1 hq with rfl | hq
            · exact h2
            · exact g3 q hq
      · cases h
    · cases h
theorem canB_ok {A : Kst} (h : canB A = true) : KstOK A := by
  unfold canB at h
  split at h
  · rename_i h1
    obtain ⟨a, b, c⟩ := liveOKb_ok h1
    obtain ⟨d, e⟩ := memOKb_ok h
    exact ⟨a, b, c, d, e⟩
  · cases h
structure KR (E : Env) (sz : Nat) (A : Kst) (a : Act) (w : World) : Prop where
  ok : KstOK A
  size : a.tmps.size = sz
  le : sz ≤ 60000
  defers : a.defers = []
  tm : ∀ q ∈ A.live, a.tmps.getD q.1 undef = q.2.den E
  rel : Rel E (getM A.mem) w
theorem KR.toR {E : Env} {sz : Nat} {A : Kst} {a : Act} {w : World} (h : KR E sz A a w) (dec : List (Option Bool)) : R E (A.st sz (fun t => a.tmps.getD t undef) dec) a w := by
  have hget : ∀ t : Nat, (∃ q ∈ A.live, q.1 = t ∧ getT (A.tm fun t => a.tmps.getD t undef) t = q.2) ∨ getT (A.tm fun t => a.tmps.getD t undef) t = (if t + 1 < 2 ^ 16 then .v (.one (.opq (a.tmps.getD t undef))) else undefL) := by
    intro t
    obtain ⟨h1, h2⟩ := getT_canT A.live (deadT 16 fun t => .v (.one (.opq (a.tmps.getD t undef)))) t h.ok.lt h.ok.nd
    by_cases hm : ∃ q ∈ A.live, q.1 = t
    · obtain ⟨q, hq, he⟩ := hm
      exact .inl ⟨q, hq, he, h1 q hq he⟩
    · refine .inr ?_
      show getT (canT A.live _) t = _
      rw [h2 fun q hq e => hm ⟨q, hq, e⟩, getT_deadT]
  refine ⟨h.size, h.le, fun t => ?_, h.defers, fun t => ?_, ⟨h.rel, h.ok.okM, h.ok.uq⟩⟩
  · show _ = (getT (A.tm _) t).den E
    rcases hget t with ⟨q, hq, he, hg⟩ | hg
    · rw [hg, ← he, h.tm q hq]
    · rw [hg]
      split
      · rfl
      · rename_i hlt
        have : ¬ t < a.tmps.size := by have := h.size; have := h.le; omega
        simp [Array.getD, this]
        rfl
  · show (getT (A.tm _) t).ok (below A.nb) = true
    rcases hget t with ⟨q, hq, he, hg⟩ | hg
    · rw [hg]; exact h.ok.okT q hq
    · rw [hg]; split <;> rfl
def To (P : Program) (sz : Nat) (c : Code) (A : Kst) (e : Ex) (B : Kst) : Prop :=
  ∀ E a w, KR E sz A a w → ∀ Q : Exit → Act → World → Prop, (∀ E' a' w', KR E' sz B a' w' → Ext w E A.ms w' E' B.ms → Q e.to a' w') → c.wp P Q a w
def projS (slots blks : List Nat) (r : Option (Out × St)) : Option (Ex × List LV × List (Option Blk) × List (Bool × Bool)) :=
  match r with
  | some (.ex e, s) => some (e, slots.map (getT s.tm), blks.map (getM s.mem), s.cs)
  | _ => none
section
variable {P : Program} {S : FuncId → Option SumK} {z : Md} {sz : Nat}
theorem zip_getM : ∀ (blks : List Nat) (bs : List Blk) (f : Nat → Option Blk), blks.map f = bs.map some → ∀ i b, getM (blks.zip bs) i = some b → f i = some b
  | [], _, _, _, i, b, h => by simp [getM] at h
  | j :: l, [], _, he, i, b, h => by simp [getM] at h
  | j :: l, c :: bs, f, he, i, b, h => by
    simp only [List.map_cons, List.cons.injEq] at he
    rw [List.zip_cons_cons, getM_cons] at h
    by_cases hij : i = j
    · rw [if_pos hij] at h; rw [hij, he.1, h]
    · rw [if_neg hij] at h; exact zip_getM l bs f he.2 i b h
theorem zip_getT : ∀ (slots : List Nat) (vs : List LV) (f : Nat → LV), slots.map f = vs → ∀ q ∈ slots.zip vs, q.2 = f q.1
  | [], _, _, _, q, h => by simp at h
  | t :: l, [], _, he, q, h => by simp at he
  | t :: l, v :: vs, f, he, q, h => by
    simp only [List.map_cons, List.cons.injEq] at he
    rw [List.zip_cons_cons] at h
    rcases List.mem_cons.1 h with rfl | h
    · exact he.1.symm
    · exact zip_getT l vs f he.2 q h
theorem To.exec (hs : Sound P S) {c : Code} {A : Kst} {e : Ex} {slots blks : List Nat} {vs : List LV} {bs : List Blk} {nbB n : Nat} {dec : List (Option Bool)} {cs : List (Bool × Bool)}
    (hrun : ∀ dead, projS slots blks (exec P S z n (.code c) (A.st sz dead dec)) = some (e, vs, bs.map some, cs)) (hcs : ∀ c ∈ cs, c.1 = c.2)
    (hB : KstOK ⟨slots.zip vs, blks.zip bs, nbB⟩) (hnb : A.nb ≤ nbB) : To P sz c A e ⟨slots.zip vs, blks.zip bs, nbB⟩ := by
  intro E a w hk Q hQ
  have hr := hk.toR dec
  have h := hrun fun t => a.tmps.getD t undef
  unfold projS at h
  split at h
  · rename_i e' s' hex
    simp only [Option.some.injEq, Prod.mk.injEq] at h
    obtain ⟨rfl, hv, hb, rfl⟩ := h
    obtain ⟨e2, q1, q2, q3, q4, q5, q6⟩ := (exec_sound (binOK P) hs.sums hs.mix hs.ng n).1 c _ _ s' hex hk.le hr.st
    cases q1
    refine q6 hcs E a w hr Q fun E' a' w' hr' hx => ?_
    have hsub := zip_getM blks bs (getM s'.mem) hb
    refine hQ E' a' w' ⟨hB, hr'.size.trans q4, hk.le, hr'.defers, fun q hq => ?_, ⟨fun i b hib => hr'.m.rel.blk i b (hsub i b hib), fun i j hi hj he => hr'.m.rel.inj i j ?_ ?_ he⟩⟩
      ⟨hnb, hx.agree, hx.os, hx.tape, hx.output, hx.size, hx.frame, fun i hi => hx.src i ?_⟩
    · rw [hr'.tm q.1, zip_getT slots vs (getT s'.tm) hv q hq]
    · obtain ⟨b, hib⟩ := Option.isSome_iff_exists.1 hi; simp [hsub i b hib]
    · obtain ⟨b, hjb⟩ := Option.isSome_iff_exists.1 hj; simp [hsub j b hjb]
    · obtain ⟨b, hib⟩ := Option.isSome_iff_exists.1 hi; simp [hsub i b hib]
  · cases h
theorem To.run (hs : Sound P S) {c : Code} {A : Kst} {e e0 : Ex} {slots blks : List Nat} {vs vs0 : List LV} {bs : List Blk} {bs0 : List (Option Blk)} {nbB n : Nat} {dec : List (Option Bool)} {cs : List (Bool × Bool)}
    (hrun : ∀ dead, projS slots blks (Go.Lr.exec P S z n (.code c) (A.st sz dead dec)) = some (e0, vs0, bs0, cs)) (he : e0 = e) (hv : vs0 = vs) (hb : bs0 = bs.map some) (hcs : ∀ c ∈ cs, c.1 = c.2)
    (hB : KstOK ⟨slots.zip vs, blks.zip bs, nbB⟩) (hnb : A.nb ≤ nbB) : To P sz c A e ⟨slots.zip vs, blks.zip bs, nbB⟩ := by
  subst he
  subst hv
  subst hb
  exact To.exec hs hrun hcs hB hnb
def c1 : Code → Code
  | .seq a _ => a
  | .block _ a => a
  | .loop a => a
  | .cond _ a _ => a
  | c => c
def c2 : Code → Code
  | .seq _ b => b
  | .cond _ _ b => b
  | c => c
def isSeq : Code → Bool
  | .seq _ _ => true
  | _ => false
def isLoop : Code → Bool
  | .loop _ => true
  | _ => false
def blkId : Code → Option Nat
  | .block id _ => some id
  | _ => none
theorem To.seq {c : Code} {A B C : Kst} {e : Ex} (hc : isSeq c = true) (h : To P sz (c1 c) A .normal B) (k : To P sz (c2 c) B e C) : To P sz c A e C := by
  cases c <;> simp only [isSeq, Bool.false_eq_true] at hc
  intro E a w hr Q hQ
  refine wp_seq (h E a w hr _ fun E' a' w' hr' hx' => ?_)
  exact k E' a' w' hr' Q fun E'' a'' w'' hr'' hx'' => hQ E'' a'' w'' hr'' (hx'.trans hx'')
theorem To.block {c : Code} {id : Nat} {A B : Kst} {e : Ex} (hc : blkId c = some id) (h : To P sz (c1 c) A e B) (he : e = .exit id ∨ e = .normal) : To P sz c A .normal B := by
  cases c <;> simp only [blkId, reduceCtorEq] at hc
  cases hc
  intro E a w hr Q hQ
  refine wp_block (h E a w hr _ fun E' a' w' hr' hx' => ?_)
  have := hQ E' a' w' hr' hx'
  rcases he with rfl | rfl
  · simpa only [Ex.to, Exit.inBlock, if_true] using this
  · exact this
def spineL : Nat → Code → List Code
  | 0, _ => []
  | k + 1, c => c1 c :: spineL k (c2 c)
def dropC : Nat → Code → Code
  | 0, c => c
  | k + 1, c => dropC k (c2 c)
def isSpine : Nat → Code → Bool
  | 0, _ => true
  | k + 1, c => match isSeq c with
    | true => isSpine k (c2 c)
    | false => false
def execL (P : Program) (S : FuncId → Option SumK) (z : Md) (n : Nat) : List Code → St → Option (Out × St)
  | [], s => some (.ex .normal, s)
  | c :: l, s => match Go.Lr.exec P S z n (.code c) s with
    | some (.ex .normal, s1) => execL P S z n l s1
    | _ => none
theorem execL_wp (hs : Sound P S) {n : Nat} : ∀ (k : Nat) (c : Code) (s s' : St), isSpine k c = true → execL P S z n (spineL k c) s = some (.ex .normal, s') → s.sz ≤ 60000 → StOK s →
    (Good s' → Good s) ∧ StOK s' ∧ s'.sz = s.sz ∧ s.nb ≤ s'.nb ∧
      (Good s' → ∀ E a w, R E s a w → ∀ Q : Exit → Act → World → Prop, (∀ E' a' w', R E' s' a' w' → Ext w E s w' E' s' → (dropC k c).wp P Q a' w') → c.wp P Q a w)
  | 0, c, s, s', _, h, _, hok => by
    simp only [spineL, execL, Option.some.injEq, Prod.mk.injEq, true_and] at h
    subst h
    exact ⟨id, hok, rfl, Nat.le_refl _, fun _ E a w hr Q hQ => hQ E a w hr (.refl _ _ _)⟩
  | k + 1, c, s, s', hsp, h, hsz, hok => by
    simp only [isSpine] at hsp
    split at hsp
    · rename_i hc
      simp only [spineL, execL] at h
      split at h
      · rename_i s1 hex
        obtain ⟨e, q1, q2, q3, q4, q5, q6⟩ := (exec_sound (binOK P) hs.sums hs.mix hs.ng n).1 (c1 c) s _ s1 hex hsz hok
        cases q1
        obtain ⟨r2, r3, r4, r5, r6⟩ := execL_wp hs k (c2 c) s1 s' hsp h (by omega) q3
        refine ⟨fun hg => q2 (r2 hg), r3, r4.trans q4, Nat.le_trans q5 r5, fun hg E a w hr Q hQ => ?_⟩
        have hw := q6 (r2 hg) E a w hr (Exit.then ((c2 c).wp P Q) Q) fun E' a' w' hr' hx' => r6 hg E' a' w' hr' Q fun E'' a'' w'' hr'' hx'' => hQ E'' a'' w'' hr'' (hx'.trans hx'')
        cases c <;> simp only [isSeq, Bool.false_eq_true] at hc
        exact wp_seq hw
      · cases h
    · cases hsp
theorem To.spine (hs : Sound P S) {c : Code} {A C : Kst} {e : Ex} {k : Nat} {slots blks : List Nat} {vs : List LV} {bs : List Blk} {nbB n : Nat} {dec : List (Option Bool)} {cs : List (Bool × Bool)}
    (hsp : isSpine k c = true) (hrun : ∀ dead, projS slots blks (execL P S z n (spineL k c) (A.st sz dead dec)) = some (.normal, vs, bs.map some, cs)) (hcs : ∀ c ∈ cs, c.1 = c.2)
    (hB : KstOK ⟨slots.zip vs, blks.zip bs, nbB⟩) (hnb : A.nb ≤ nbB) (h : To P sz (dropC k c) ⟨slots.zip vs, blks.zip bs, nbB⟩ e C) : To P sz c A e C := by
  intro E a w hk Q hQ
  have hr := hk.toR dec
  have hh := hrun fun t => a.tmps.getD t undef
  unfold projS at hh
  split at hh
  · rename_i e' s' hex
    simp only [Option.some.injEq, Prod.mk.injEq] at hh
    obtain ⟨rfl, hv, hb, rfl⟩ := hh
    obtain ⟨q2, q3, q4, q5, q6⟩ := execL_wp (z := z) hs k c _ s' hsp hex hk.le hr.st
    refine q6 hcs E a w hr Q fun E' a' w' hr' hx => ?_
    have hsub := zip_getM blks bs (getM s'.mem) hb
    refine h E' a' w' ⟨hB, hr'.size.trans q4, hk.le, hr'.defers, fun q hq => ?_, ⟨fun i b hib => hr'.m.rel.blk i b (hsub i b hib), fun i j hi hj he => hr'.m.rel.inj i j ?_ ?_ he⟩⟩ Q
      fun E'' a'' w'' hr'' hx'' => hQ E'' a'' w'' hr'' (Ext.trans (s1 := Kst.ms ⟨slots.zip vs, blks.zip bs, nbB⟩) ⟨hnb, hx.agree, hx.os, hx.tape, hx.output, hx.size, hx.frame, fun i hi => hx.src i ?_⟩ hx'')
    · rw [hr'.tm q.1, zip_getT slots vs (getT s'.tm) hv q hq]
    · obtain ⟨b, hib⟩ := Option.isSome_iff_exists.1 hi; simp [hsub i b hib]
    · obtain ⟨b, hjb⟩ := Option.isSome_iff_exists.1 hj; simp [hsub j b hjb]
    · obtain ⟨b, hib⟩ := Option.isSome_iff_exists.1 hi; simp [hsub i b hib]
  · cases hh
theorem To.spineR (hs : Sound P S) {c : Code} {A C : Kst} {e e0 : Ex} {k : Nat} {slots blks : List Nat} {vs vs0 : List LV} {bs : List Blk} {bs0 : List (Option Blk)} {nbB n : Nat} {dec : List (Option Bool)} {cs : List (Bool × Bool)}
    (hsp : isSpine k c = true) (hrun : ∀ dead, projS slots blks (execL P S z n (spineL k c) (A.st sz dead dec)) = some (e0, vs0, bs0, cs)) (he : e0 = .normal) (hv : vs0 = vs) (hb : bs0 = bs.map some) (hcs : ∀ c ∈ cs, c.1 = c.2)
    (hB : KstOK ⟨slots.zip vs, blks.zip bs, nbB⟩) (hnb : A.nb ≤ nbB) (h : To P sz (dropC k c) ⟨slots.zip vs, blks.zip bs, nbB⟩ e C) : To P sz c A e C := by
  subst he
  subst hv
  subst hb
  exact To.spine hs hsp hrun hcs hB hnb h
def Rd (P : Program) (sz : Nat) (c : Code) (m : Nat) (A : Kst) (e : Ex) (B : Kst) : Prop :=
  ∀ E a w, KR E sz A a w → ∀ Q : Exit → Act → World → Prop, (∀ E' a' w', KR E' sz B a' w' → Ext w E A.ms w' E' B.ms → Q e.to a' w') → Code.rounds P c Q m a w
theorem Rd.last {c : Code} {A B : Kst} {e : Ex} (he : e ≠ .normal) (h : To P sz c A e B) : Rd P sz c 1 A e B := by
  intro E a w hr Q hQ
  rw [rounds_succ]
  refine h E a w hr _ fun E' a' w' hr' hx' => ?_
  have := hQ E' a' w' hr' hx'
  cases e <;> first | exact absurd rfl he | exact this
theorem Rd.next {c : Code} {A B C : Kst} {e : Ex} {m : Nat} (h : To P sz c A .normal B) (k : Rd P sz c m B e C) : Rd P sz c (m + 1) A e C := by
  intro E a w hr Q hQ
  rw [rounds_succ]
  refine h E a w hr _ fun E' a' w' hr' hx' => ?_
  exact k E' a' w' hr' Q fun E'' a'' w'' hr'' hx'' => hQ E'' a'' w'' hr'' (hx'.trans hx'')
theorem To.loop {c : Code} {A B : Kst} {e : Ex} {m : Nat} (hc : isLoop c = true) (h : Rd P sz (c1 c) m A e B) : To P sz c A e B := by
  cases c <;> simp only [isLoop, Bool.false_eq_true] at hc
  exact fun E a w hr Q hQ => wp_loop_rounds m (h E a w hr Q hQ)
theorem To.weak {c : Code} {A B C : Kst} {e : Ex} (h : To P sz c A e B) (hl : ∀ q ∈ C.live, q ∈ B.live) (hm : C.mem = B.mem) (hn : C.nb = B.nb) (hC : KstOK C) : To P sz c A e C := by
  intro E a w hr Q hQ
  refine h E a w hr Q fun E' a' w' hr' hx' => hQ E' a' w' ⟨hC, hr'.size, hr'.le, hr'.defers, fun q hq => hr'.tm q (hl q hq), by rw [hm]; exact hr'.rel⟩ ?_
  have e1 : C.ms = B.ms := by unfold Kst.ms; rw [hm, hn]
  rw [e1]; exact hx'
def bodyF (P : Program) (f : FuncId) : Code :=
  match P.funcs[f]? with
  | some fn => match fn.body with
    | some c => c
    | none => .skip
  | none => .skip
def argsL : Nat → List LV → List (Nat × LV)
  | _, [] => []
  | i, v :: l => (i, v) :: argsL (i + 1) l
theorem argsL_mem : ∀ (l : List LV) (i : Nat) (q : Nat × LV), q ∈ argsL i l ↔ i ≤ q.1 ∧ l[q.1 - i]? = some q.2
  | [], i, q => by simp [argsL]
  | v :: l, i, q => by
    simp only [argsL, List.mem_cons]
    rw [argsL_mem l (i + 1) q]
    constructor
    · rintro (rfl | ⟨h1, h2⟩)
      · simp
      · refine ⟨by omega, ?_⟩
        rw [show q.1 - i = (q.1 - (i + 1)) + 1 by omega]
        simpa using h2
    · rintro ⟨h1, h2⟩
      by_cases h : q.1 = i
      · left
        rw [h] at h2
        simp at h2
        rw [h2, ← h]
      · right
        refine ⟨by omega, ?_⟩
        rw [show q.1 - i = (q.1 - (i + 1)) + 1 by omega] at h2
        simpa using h2
theorem argsL_fst : ∀ (l : List LV) (i : Nat), ((argsL i l).map (·.1)).Nodup ∧ ∀ t ∈ (argsL i l).map (·.1), i ≤ t
  | [], i => by simp [argsL]
  | v :: l, i => by
    obtain ⟨h1, h2⟩ := argsL_fst l (i + 1)
    refine ⟨?_, fun t ht => ?_⟩
    · simp only [argsL, List.map_cons, List.nodup_cons]
      exact ⟨fun h => by have := h2 i h; omega, h1⟩
    · simp only [argsL, List.map_cons, List.mem_cons] at ht
      rcases ht with rfl | ht
      · exact Nat.le_refl _
      · have := h2 t ht; omega
theorem calls_of_To {f : FuncId} {fn : Func} {c : Code} {args : List LV} {m : Mem} {nb : Nat} {B : Kst} {e : Ex} {v : LV} (hf : P.funcs[f]? = some fn) (hb : fn.body = some c)
    (hle : fn.ntmps ≤ 60000) (hargs : args.length ≤ fn.ntmps) (hA : ∀ u ∈ args, u.ok (below nb) = true) (hm : ∀ i b, getM m i = some b → i < nb ∧ okL (below nb) b.cells = true) (hu : uniq m)
    (h : To P fn.ntmps c ⟨argsL 0 args, m, nb⟩ e B) (he : e = .normal ∨ e = .ret)
    (hres : ∀ dead, resultsD P fn.results.toList (getT (B.tm dead)) B.mem = some v) (E : Env) (w : World) (hrel : Rel E (getM m) w) :
    Calls P f (args.map (LV.den E)).toArray w fun e w' => ∃ E', e = .returned (v.den E') ∧ MRel E' B.ms w' ∧ Ext w E (Kst.ms ⟨argsL 0 args, m, nb⟩) w' E' B.ms := by
  refine calls_of_wp hf hb (h E _ w ⟨⟨fun q hq => ?_, (argsL_fst args 0).1, fun q hq => ?_, hm, hu⟩, by simp; omega, hle, rfl, fun q hq => ?_, hrel⟩ _ fun E' a' w' hr' hx' => ?_)
  · have := (argsL_mem args 0 q).1 hq
    have := (List.getElem?_eq_some_iff.1 this.2).1
    omega
  · exact hA q.2 (List.mem_of_getElem? ((argsL_mem args 0 q).1 hq).2)
  · have := ((argsL_mem args 0 q).1 hq).2
    simp only [Nat.sub_zero] at this
    have hlt := (List.getElem?_eq_some_iff.1 this).1
    simp only [Array.getD_eq_getD_getElem?, Array.getElem?_append, List.size_toArray, List.length_map]
    rw [if_pos hlt]
    simp [this]
  · have hR := hr'.toR []
    have hpost : bodyPost P fn (fun e w' => ∃ E', e = .returned (v.den E') ∧ MRel E' B.ms w' ∧ Ext w E (Kst.ms ⟨argsL 0 args, m, nb⟩) w' E' B.ms) .ret a' w' :=
      ⟨hr'.defers, v.den E', resultsD_spec hR.m.rel hR.tm (hres _), E', rfl, ⟨hr'.rel, hr'.ok.okM, hr'.ok.uq⟩, hx'⟩
    rcases he with rfl | rfl
    · exact hpost
    · exact hpost
end
theorem calls_pure {P : Program} {f : FuncId} {fn : Func} {c : Code} {args : List LV} {B : Kst} {e : Ex} {v : LV} (hf : P.funcs[f]? = some fn) (hb : fn.body = some c)
    (hle : fn.ntmps ≤ 60000) (hargs : args.length ≤ fn.ntmps) (ha : plainVs args = true) (h : To P fn.ntmps c ⟨argsL 0 args, [], 0⟩ e B) (he : e = .normal ∨ e = .ret)
    (hres : ∀ dead, resultsD P fn.results.toList (getT (B.tm dead)) B.mem = some v) (hv : v.ok noP = true) (w : World) :
    Calls P f (args.map (LV.den E0)).toArray w fun e w' => e = .returned (v.den E0) ∧ Below w.heap.size w w' := by
  have ha' := plainVs_iff.1 ha
  refine (calls_of_To (m := []) (nb := 0) hf hb hle hargs (fun u hu => LV.ok_mono noP_below (ha' u hu)) (fun i b h => by simp [getM] at h) trivial h he hres E0 w ⟨fun i b h => by simp [getM] at h, fun i j h => by simp [getM] at h⟩).mono ?_
  rintro e w' ⟨E', rfl, _, hx⟩
  exact ⟨by rw [den_noP hv], hx.os, hx.tape, hx.output, hx.size, fun k hk => hx.frame k hk fun i hi => by simp [getM, Kst.ms] at hi⟩
end Go.Lr

/- The local evaluator: summaries of functions that are handed slices of numbers. -/
namespace Go.Lr
open Go.RowKit
structure Lcl (E : Env) (m m' : Mem) (w w' : World) : Prop where
  os : w'.os = w.os
  tape : w'.tape = w.tape
  output : w'.output = w.output
  size : w.heap.size ≤ w'.heap.size
  frame : ∀ b, b < w.heap.size → (∀ i, (getM m i).isSome → (E i).1 ≠ b) → w'.heap[b]? = w.heap[b]?
  blk : ∀ i b, getM m' i = some b → blkAt E i b w'
section
variable {P : Program} {S : FuncId → Option SumK} {z : Md}
theorem lcl_of {E E' : Env} {A B : St} {m m' : Mem} {w w' : World} (hA : A.mem = m) (hr : MRel E' B w') (hx : Ext w E A w' E' B)
    (hg : ∀ i b, getM m' i = some b → getM B.mem i = some b ∧ i < A.nb ∧ okL (below A.nb) b.cells = true) : Lcl E m m' w w' := by
  subst hA
  refine ⟨hx.os, hx.tape, hx.output, hx.size, hx.frame, fun i b hib => ?_⟩
  obtain ⟨h1, h2, h3⟩ := hg i b hib
  obtain ⟨r, g1, g2, g3⟩ := hr.rel.blk i b h1
  rw [hx.agree i h2] at g1 g3
  refine ⟨r, ?_, g2, g3⟩
  rw [g1, denL_congr (E := E) (E' := E') (p := below A.nb) (fun j hj => hx.agree j (by simpa [below, nblt] using hj)) h3]
theorem lcl_of_run (hs : Sound P S) {n : Nat} {f : FuncId} {args : List LV} {m m' m2 : Mem} {nb nb' : Nat} {dec : List (Option Bool)} {v : LV} {cs : List (Bool × Bool)} (hrun : runF P S z n f args m nb dec = some (v, m2, nb', cs))
    (hg : ∀ i b, getM m' i = some b → getM m2 i = some b ∧ i < nb ∧ okL (below nb) b.cells = true) (hc : ∀ c ∈ cs, c.1 = c.2) (hm : memOKb nb m = true) (ha : ∀ u ∈ args, u.ok (below nb) = true) (hv : v.ok noP = true)
    (E : Env) (w : World) (hrel : Rel E (getM m) w) : Calls P f (args.map (LV.den E)).toArray w fun e w' => e = .returned (v.den E0) ∧ Lcl E m m' w w' := by
  obtain ⟨s', h1, h2, h3, h4⟩ := runF_body hrun
  obtain ⟨k1, k2⟩ := memOKb_ok hm
  obtain ⟨v', b1, b2, b3, b4, b5, b6, b7, b8⟩ := (exec_sound (binOK P) hs.sums hs.mix hs.ng n).2.2.2 f args _ _ s' h1 k1 k2 ha
  cases b1
  refine (b8 (by rw [Good, h4]; exact hc) E w ⟨hrel, k1, k2⟩).mono ?_
  rintro e w' ⟨E', rfl, hmr, hx⟩
  exact ⟨by rw [den_noP hv], lcl_of rfl hmr hx fun i b hib => by rw [h2]; exact hg i b hib⟩
theorem lcl_of_To {f : FuncId} {fn : Func} {c : Code} {args : List LV} {m m' : Mem} {nb : Nat} {B : Kst} {e : Ex} {v : LV} (hf : P.funcs[f]? = some fn) (hb : fn.body = some c)
    (hle : fn.ntmps ≤ 60000) (hargs : args.length ≤ fn.ntmps) (hA : ∀ u ∈ args, u.ok (below nb) = true) (hm : memOKb nb m = true)
    (h : To P fn.ntmps c ⟨argsL 0 args, m, nb⟩ e B) (he : e = .normal ∨ e = .ret)
    (hres : ∀ dead, resultsD P fn.results.toList (getT (B.tm dead)) B.mem = some v) (hv : v.ok noP = true)
    (hg : ∀ i b, getM m' i = some b → getM B.mem i = some b ∧ i < nb ∧ okL (below nb) b.cells = true)
    (E : Env) (w : World) (hrel : Rel E (getM m) w) : Calls P f (args.map (LV.den E)).toArray w fun e w' => e = .returned (v.den E0) ∧ Lcl E m m' w w' := by
  obtain ⟨k1, k2⟩ := memOKb_ok hm
  refine (calls_of_To hf hb hle hargs hA k1 k2 h he hres E w hrel).mono ?_
  rintro e w' ⟨E', rfl, hmr, hx⟩
  exact ⟨by rw [den_noP hv], lcl_of rfl hmr hx hg⟩
def getInts : List At → Nat → Option (List Int)
  | _, 0 => some []
  | .int .i64 x :: l, n + 1 => match getInts l n with
    | some r => some (x :: r)
    | none => none
  | _, _ + 1 => none
def toI : At → Int
  | .int .i64 x => x
  | _ => 0
def isI64 : At → Bool
  | .int .i64 _ => true
  | _ => false
def intL (l : List At) : List Int := l.map toI
def isIntL (l : List At) : Bool := l.all isI64
def IntsAt (l : List At) (o : Nat) (xs : List Int) : Prop := ∀ j (h : j < xs.length), atL l (o + j) = some (.int .i64 xs[j])
theorem atL_eq (l : List At) (n : Nat) : atL l n = l[n]? := atL_spec
theorem atL_drop (l : List At) (o n : Nat) : atL (l.drop o) n = atL l (o + n) := by rw [atL_eq, atL_eq, List.getElem?_drop]
theorem getInts_at : ∀ (n : Nat) (l : List At) (xs : List Int), getInts l n = some xs → xs.length = n ∧ IntsAt l 0 xs
  | 0, l, xs, h => by simp only [getInts] at h; cases h; exact ⟨rfl, fun j hj => by simp at hj⟩
  | n + 1, l, xs, h => by
    unfold getInts at h
    split at h
    · rename_i h' ; cases h'
    · rename_i x l' n' hn
      cases hn
      split at h
      · rename_i r hr
        cases h
        obtain ⟨h1, h2⟩ := getInts_at n l' r hr
        refine ⟨by simp [h1], fun j hj => ?_⟩
        cases j with
        | zero => rfl
        | succ j => have := h2 j (by simpa using hj); rw [atL_eq] at this ⊢; simpa using this
      · cases h
    · cases h
theorem IntsAt.drop {l : List At} {o : Nat} {xs : List Int} (h : IntsAt (l.drop o) 0 xs) : IntsAt l o xs := fun j hj => by
  have := h j hj
  rw [atL_drop] at this
  simpa using this
theorem intL_len (l : List At) : (intL l).length = l.length := by simp [intL]
theorem isIntL_at (l : List At) (h : isIntL l = true) : IntsAt l 0 (intL l) := by
  intro j hj
  rw [atL_eq, Nat.zero_add]
  have hj' : j < l.length := by simpa [intL] using hj
  rw [List.getElem?_eq_getElem hj']
  have := List.all_eq_true.1 h l[j] (List.getElem_mem hj')
  simp only [intL, List.getElem_map]
  generalize l[j] = a at this ⊢
  unfold isI64 at this
  split at this
  · rfl
  · cases this
theorem intAt_of {l : List At} {o : Nat} {x : Int} (h : atL l o = some (.int .i64 x)) : intAt l o = x ∧ isIntAt .i64 l o = true := by
  unfold intAt isIntAt; rw [h]; exact ⟨rfl, rfl⟩
inductive AV where
  | pl (v : LV)
  | ints (xs : List Int)
def slB : LV → Option Nat
  | .v (.one (.sl b _ _ _)) => some b
  | .v (.one (.slu b _)) => some b
  | .v (.one (.slx b _ _ _)) => some b
  | _ => none
def isNilS : LV → Bool
  | .v (.one .nilsl) => true
  | _ => false
def rdA : List LV → Option (List Nat)
  | [] => some []
  | v :: l => match slB v with
    | some b => match rdA l with
      | some r => some (b :: r)
      | none => none
    | none => match v.ok noP with
      | true => rdA l
      | false => none
def slInts (es : Nat) (s : LV) (k : Blk) : Option (List Int × List (Bool × Bool)) :=
  match s with
  | .v (.one (.sl _ o n c)) => match Nat.ble n c, getInts (k.cells.drop o) (n * es), okL noP k.cells with
    | true, some xs, true => some (xs, [])
    | _, _, _ => none
  | .v (.one (.slu _ n)) => match Nat.beq k.es es, Nat.ble 1 es with
    | true, true => some (intL (k.cells.take (n * es)), [(isIntL (k.cells.take (n * es)) && (okL noP k.cells && decide (n * es ≤ k.cells.length)), true)])
    | _, _ => none
  | .v (.one (.slx _ o n c)) => some (intL ((k.cells.drop o).take (n * es)), [(isIntL ((k.cells.drop o).take (n * es)) && (okL noP k.cells && (decide (o + n * es ≤ k.cells.length) && decide (n ≤ c))), true)])
  | _ => none
def avA (es : Nat) : List LV → List Blk → Option (List AV × List (Bool × Bool))
  | [], _ => some ([], [])
  | v :: l, bs => match slB v with
    | some _ => match bs with
      | k :: bs => match slInts es v k with
        | some (xs, cs) => match avA es l bs with
          | some (r, cs') => some (.ints xs :: r, cs ++ cs')
          | none => none
        | none => none
      | [] => none
    | none => match isNilS v with
      | true => match avA es l bs with
        | some (r, cs') => some (.ints [] :: r, cs')
        | none => none
      | false => match avA es l bs with
        | some (r, cs') => some (.pl v :: r, cs')
        | none => none
def acSum (ty : TypeId) (es : Nat) (F : List AV → Bool → Option (LV × Bool × List (Bool × Bool))) : Sum := fun args =>
  match args with
  | .v (.one (.ptr c 0)) :: rest => match rdA rest with
    | some bl => match memB bl c with
      | false => some ⟨bl, [c], fun rdB wB _ => match wB with
        | [⟨t, (0, 0), 0, [.bool h]⟩] => match Nat.beq t ty with
          | true => match avA es rest rdB with
            | some (avs, cs0) => match F avs h with
              | some (v, h', cs) => match v.ok noP with
                | true => some ⟨v, [flag ty h'], [], cs0 ++ cs⟩
                | false => none
              | none => none
            | none => none
          | false => none
        | _ => none⟩
      | true => none
    | none => none
  | _ => none
theorem post_lcl {w w' : World} {E : Env} {g : Nat → Option Blk} {nb c : Nat} {v : LV} {ty : TypeId} {h h' : Bool} (hr : Rel E g w) (hc : g c = some (flag ty h))
    (hos : w'.os = w.os) (htape : w'.tape = w.tape) (hout : w'.output = w.output) (hsz : w.heap.size ≤ w'.heap.size)
    (hthis : blkAt E c (flag ty h') w') (hrest : ∀ i b, i ≠ c → g i = some b → blkAt E i b w') (hfr : ∀ b, b < w.heap.size → (∀ i, (g i).isSome → (E i).1 ≠ b) → w'.heap[b]? = w.heap[b]?) :
    Post w E g nb ⟨v, [(c, some (flag ty h'))], [], [], []⟩ E w' := by
  refine ⟨fun _ _ => rfl, ⟨fun i b hb => ?_, fun i j hi hj he => ?_⟩, hos, htape, hout, hsz, hfr, fun i h1 h2 => by simp at h2; omega⟩
  · simp only [nwG, wrG] at hb
    by_cases hi : i = c
    · subst hi
      rw [if_pos rfl] at hb
      cases hb
      exact hthis
    · rw [if_neg hi] at hb
      exact hrest i b hi hb
  · simp only [nwG, wrG] at hi hj
    refine hr.inj i j ?_ ?_ he
    · by_cases h1 : i = c
      · rw [h1]; simp [hc]
      · simpa [if_neg h1] using hi
    · by_cases h1 : j = c
      · rw [h1]; simp [hc]
      · simpa [if_neg h1] using hj
def SlAt (es : Nat) (k : Blk) (o n : Nat) (xs : List Int) : Prop := xs.length = n * es ∧ IntsAt k.cells o xs ∧ okL noP k.cells = true
theorem blkAt_ren {E E' : Env} {i j : Nat} {b : Blk} {w : World} (hb : okL noP b.cells = true) (he : E' j = E i) (h : blkAt E i b w) : blkAt E' j b w := by
  obtain ⟨r, h1, h2, h3⟩ := h
  refine ⟨r, ?_, h2, fun hne => by rw [he]; exact h3 hne⟩
  rw [he, h1, denA_noP (E := E') hb, denA_noP (E := E) hb]
theorem call_up {f : FuncId} (ho : Own P f) {args args' : List LV} {m m' : Mem} {ren : Nat → Nat} {g : Nat → Option Blk} {nb c : Nat} {ty : TypeId} {h h' : Bool} {v : LV} {E E1 : Env} {w : World}
    (hE : ∀ i, E1 i = E (ren i)) (hrel : Rel E g w) (hc : g c = some (flag ty h)) (h0 : getM m' 0 = some (flag ty h')) (hren0 : ren 0 = c) (hm : ∀ i b, getM m i = some b → g (ren i) = some b)
    (hm' : ∀ i b, i ≠ 0 → getM m i = some b → getM m' i = some b) (hok : ∀ i b, getM m i = some b → okL noP b.cells = true)
    (hargs : args.map (LV.den E) = args'.map (LV.den E1)) (hv : v.ok noP = true)
    (hcall : Calls P f (args'.map (LV.den E1)).toArray w fun e w' => e = .returned (v.den E0) ∧ Lcl E1 m m' w w') :
    CallOK P f (args.map (LV.den E)).toArray w fun u w' => ∃ E', u = v.den E' ∧ Post w E g nb ⟨v, [(c, some (flag ty h'))], [], [], []⟩ E' w' := by
  obtain ⟨fn, f1, f2, f3⟩ := ho
  rw [hargs]
  refine .inl ⟨fn, f1, f2, f3, hcall.mono ?_⟩
  rintro e w' ⟨rfl, hl⟩
  have hfr : ∀ b, b < w.heap.size → (∀ i, (getM m i).isSome → (E1 i).1 ≠ b) → w'.heap[b]? = w.heap[b]? := hl.frame
  refine ⟨_, rfl, E, (den_noP hv).symm, post_lcl hrel hc hl.os hl.tape hl.output hl.size ?_ (fun i b hi hib => ?_) fun b hb hne => hfr b hb fun i hi => ?_⟩
  · exact blkAt_ren (E := E1) (i := 0) rfl (by rw [hE, hren0]) (hl.blk 0 _ h0)
  · by_cases hex : ∃ j, (getM m j).isSome ∧ ren j = i
    · obtain ⟨j, hj, rfl⟩ := hex
      obtain ⟨b', hb'⟩ := Option.isSome_iff_exists.1 hj
      have : b' = b := by have := hm j b' hb'; rw [hib] at this; cases this; rfl
      subst this
      have hj0 : j ≠ 0 := fun e => hi (by rw [e, hren0])
      exact blkAt_ren (E := E1) (i := j) (hok j _ hb') (hE j).symm (hl.blk j _ (hm' j _ hj0 hb'))
    · obtain ⟨r, g1, g2, g3⟩ := hrel.blk i b hib
      refine ⟨r, ?_, g2, g3⟩
      rw [hfr _ (Array.getElem?_eq_some_iff.1 g1).1 fun j hj e => hex ⟨j, hj, ?_⟩]
      · exact g1
      · obtain ⟨b', hb'⟩ := Option.isSome_iff_exists.1 hj
        rw [hE] at e
        exact hrel.inj _ _ (by rw [hm j b' hb']; rfl) (by rw [hib]; rfl) e
  · obtain ⟨b', hb'⟩ := Option.isSome_iff_exists.1 hi
    rw [hE]
    exact hne _ (by rw [hm i b' hb']; rfl)
theorem rel2 {E E1 : Env} {g : Nat → Option Blk} {w : World} {c b : Nat} {kc k : Blk} (hrel : Rel E g w) (hkc : g c = some kc) (hk : g b = some k) (hcb : c ≠ b) (o0 : okL noP kc.cells = true) (o1 : okL noP k.cells = true)
    (h0 : E1 0 = E c) (h1 : E1 1 = E b) : Rel E1 (getM [(0, kc), (1, k)]) w := by
  refine ⟨fun i q hq => ?_, fun i j hi hj he => ?_⟩
  · rw [getM_cons] at hq
    by_cases hi : i = 0
    · subst hi; rw [if_pos rfl] at hq; cases hq; exact blkAt_ren o0 h0 (hrel.blk c _ hkc)
    · rw [if_neg hi, getM_cons] at hq
      by_cases hi1 : i = 1
      · subst hi1; rw [if_pos rfl] at hq; cases hq; exact blkAt_ren o1 h1 (hrel.blk b _ hk)
      · rw [if_neg hi1] at hq; simp [getM] at hq
  · have two : ∀ i, (getM [(0, kc), (1, k)] i).isSome → i = 0 ∨ i = 1 := by
      intro i hi
      rw [getM_cons] at hi
      by_cases h0 : i = 0
      · exact .inl h0
      · rw [if_neg h0, getM_cons] at hi
        by_cases h1 : i = 1
        · exact .inr h1
        · rw [if_neg h1] at hi; simp [getM] at hi
    rcases two i hi with rfl | rfl <;> rcases two j hj with rfl | rfl
    · rfl
    · rw [h0, h1] at he; exact absurd (hrel.inj c b (by simp [hkc]) (by simp [hk]) he) hcb
    · rw [h0, h1] at he; exact absurd (hrel.inj b c (by simp [hk]) (by simp [hkc]) he).symm hcb
    · rfl
theorem get2 {kc k q : Blk} {i : Nat} (hq : getM [(0, kc), (1, k)] i = some q) : (i = 0 ∧ q = kc) ∨ (i = 1 ∧ q = k) := by
  rw [getM_cons] at hq
  by_cases hi : i = 0
  · subst hi; rw [if_pos rfl] at hq; cases hq; exact .inl ⟨rfl, rfl⟩
  · rw [if_neg hi, getM_cons] at hq
    by_cases hi1 : i = 1
    · subst hi1; rw [if_pos rfl] at hq; cases hq; exact .inr ⟨rfl, rfl⟩
    · rw [if_neg hi1] at hq; simp [getM] at hq
theorem get1 {kc q : Blk} {i : Nat} (hq : getM [(0, kc)] i = some q) : i = 0 ∧ q = kc := by
  rw [getM_cons] at hq
  by_cases hi : i = 0
  · subst hi; rw [if_pos rfl] at hq; cases hq; exact ⟨rfl, rfl⟩
  · rw [if_neg hi] at hq; simp [getM] at hq
theorem rel1 {E E1 : Env} {g : Nat → Option Blk} {w : World} {c : Nat} {kc : Blk} (hrel : Rel E g w) (hkc : g c = some kc) (o0 : okL noP kc.cells = true) (h0 : E1 0 = E c) : Rel E1 (getM [(0, kc)]) w := by
  refine ⟨fun i q hq => ?_, fun i j hi hj he => ?_⟩
  · obtain ⟨rfl, rfl⟩ := get1 hq; exact blkAt_ren o0 h0 (hrel.blk c _ hkc)
  · obtain ⟨q, hq⟩ := Option.isSome_iff_exists.1 hi
    obtain ⟨q', hq'⟩ := Option.isSome_iff_exists.1 hj
    rw [(get1 hq).1, (get1 hq').1]
def ren2 (a b : Nat) : Nat → Nat
  | 0 => a
  | _ => b
theorem liveAll_cons {g : Nat → Option Blk} {b : Nat} {l : List Nat} {r : List Blk} (h : liveAll g (b :: l) = some r) : ∃ k r', g b = some k ∧ liveAll g l = some r' ∧ r = k :: r' := by
  simp only [liveAll] at h
  split at h
  · rename_i k r' hk hr; cases h; exact ⟨k, r', hk, hr, rfl⟩
  · cases h
theorem liveAll_nil {g : Nat → Option Blk} {r : List Blk} (h : liveAll g [] = some r) : r = [] := by simp only [liveAll] at h; cases h; rfl
theorem take_ints {l : List At} {o m : Nat} (h : isIntL ((l.drop o).take m) = true) (hl : o + m ≤ l.length) : (intL ((l.drop o).take m)).length = m ∧ IntsAt l o (intL ((l.drop o).take m)) := by
  have e : (intL ((l.drop o).take m)).length = m := by rw [intL_len, List.length_take, List.length_drop]; omega
  refine ⟨e, fun j hj => ?_⟩
  have h1 := isIntL_at _ h j hj
  rw [e] at hj
  rw [atL_eq, Nat.zero_add, List.getElem?_take, if_pos (by omega), List.getElem?_drop, ← atL_eq] at h1
  exact h1
theorem slInts_loc {es b : Nat} {s : LV} {k : Blk} {xs : List Int} {cs : List (Bool × Bool)} {E : Env} {w : World} (h : slInts es s k = some (xs, cs)) (hc : ∀ c ∈ cs, c.1 = c.2) (hb : slB s = some b) (hk : blkAt E b k w) :
    ∃ o n c, SlAt es k o n xs ∧ n ≤ c ∧ ∀ (E' : Env) (j : Nat), E' j = E b → s.den E = (LV.v (.one (.slx j o n c))).den E' := by
  unfold slInts at h
  split at h
  · rename_i b' o n c
    cases hb
    split at h
    · rename_i hle hx hok
      cases h
      obtain ⟨h1, h2⟩ := getInts_at _ _ _ hx
      exact ⟨o, n, c, ⟨h1, h2.drop, hok⟩, Nat.le_of_ble_eq_true hle, fun E' j hj => by simp only [LV.den, V1.den, At.den, hj]⟩
    · cases h
  · rename_i b' n
    cases hb
    split at h
    · rename_i he h1
      cases h
      rw [nbeq] at he
      have he' : k.es = es := by simpa using he
      have h1' : 1 ≤ es := Nat.le_of_ble_eq_true h1
      have := hc _ (List.mem_singleton.2 rfl)
      simp only [Bool.and_eq_true, decide_eq_true_eq] at this
      obtain ⟨a1, a2, a3⟩ := this
      have ht := take_ints (l := k.cells) (o := 0) (m := n * es) (by simpa using a1) (by omega)
      simp only [List.drop_zero] at ht
      obtain ⟨r, g1, g2, g3⟩ := hk
      have g4 := g3 (by omega)
      have hle : n ≤ (E b).2 := by
        refine Nat.le_of_mul_le_mul_right (c := es) ?_ (by omega)
        rw [he'] at g4
        omega
      exact ⟨0, n, (E b).2, ⟨ht.1, ht.2, a2⟩, hle, fun E' j hj => by simp only [LV.den, V1.den, At.den, hj, Nat.zero_add]⟩
    · cases h
  · rename_i b' o n c
    cases hb
    cases h
    have := hc _ (List.mem_singleton.2 rfl)
    simp only [Bool.and_eq_true, decide_eq_true_eq] at this
    obtain ⟨a1, a2, a3, a4⟩ := this
    have ht := take_ints a1 a3
    exact ⟨o, n, c, ⟨ht.1, ht.2, a2⟩, a4, fun E' j hj => by simp only [LV.den, V1.den, At.den, hj]⟩
  · cases h
theorem shape1 {es : Nat} {xs : List Int} {g : Nat → Option Blk} : ∀ (pre : List LV) (rest : List LV) (rdB : List Blk) (bl : List Nat) (cs0 : List (Bool × Bool)), rdA rest = some bl → liveAll g bl = some rdB → avA es rest rdB = some (pre.map AV.pl ++ [.ints xs], cs0) → (∀ c ∈ cs0, c.1 = c.2) →
  plainVs pre = true ∧ ((∃ s b k cs, rest = pre ++ [s] ∧ slB s = some b ∧ bl = [b] ∧ g b = some k ∧ slInts es s k = some (xs, cs) ∧ ∀ c ∈ cs, c.1 = c.2) ∨ (rest = pre ++ [.v (.one .nilsl)] ∧ xs = [])) := by
  intro pre
  induction pre with
  | nil =>
    intro rest rdB bl cs0 h1 h2 h3 h4
    refine ⟨rfl, ?_⟩
    cases rest with
    | nil => simp [avA] at h3
    | cons s rest =>
      simp only [avA, List.map_nil, List.nil_append] at h3
      split at h3
      · rename_i b hsl
        simp only [rdA, hsl] at h1
        split at h1
        · rename_i r hr1
          cases h1
          obtain ⟨k, r', hk, hr', rfl⟩ := liveAll_cons h2
          simp only at h3
          split at h3
          · rename_i xs' cs1 hx
            split at h3
            · rename_i r2 cs2 hav
              simp only [Option.some.injEq, Prod.mk.injEq, List.cons.injEq, AV.ints.injEq] at h3
              obtain ⟨⟨rfl, hnil⟩, hcs⟩ := h3
              subst hnil
              subst hcs
              cases rest with
              | nil =>
                simp only [rdA] at hr1
                cases hr1
                exact .inl ⟨s, b, k, cs1, rfl, hsl, rfl, hk, hx, fun c hcm => h4 c (List.mem_append_left _ hcm)⟩
              | cons s2 rest2 =>
                exfalso
                simp only [avA] at hav
                (repeat' split at hav) <;> simp at hav
            · cases h3
          · cases h3
        · cases h1
      · rename_i hsl
        split at h3
        · rename_i hnil
          split at h3
          · rename_i r2 cs2 hav
            simp only [Option.some.injEq, Prod.mk.injEq, List.cons.injEq, AV.ints.injEq] at h3
            obtain ⟨⟨hx, hn2⟩, hcs⟩ := h3
            subst hn2
            cases rest with
            | nil =>
              refine .inr ⟨?_, hx.symm⟩
              unfold isNilS at hnil
              split at hnil
              · rfl
              · cases hnil
            | cons s2 rest2 =>
              exfalso
              simp only [avA] at hav
              (repeat' split at hav) <;> simp at hav
          · cases h3
        · split at h3 <;> simp at h3
  | cons q pre ih =>
    intro rest rdB bl cs0 h1 h2 h3 h4
    cases rest with
    | nil => simp [avA] at h3
    | cons s rest =>
      simp only [avA, List.map_cons, List.cons_append] at h3
      split at h3
      · rename_i b hsl
        (repeat' split at h3) <;> simp at h3
      · rename_i hsl
        split at h3
        · (repeat' split at h3) <;> simp at h3
        · split at h3
          · rename_i r2 cs2 hav
            simp only [Option.some.injEq, Prod.mk.injEq, List.cons.injEq, AV.pl.injEq] at h3
            obtain ⟨⟨rfl, hr2⟩, rfl⟩ := h3
            simp only [rdA, hsl] at h1
            split at h1
            · rename_i hq
              rw [hr2] at hav
              obtain ⟨i1, i2⟩ := ih rest rdB bl cs2 h1 h2 hav h4
              refine ⟨by simp only [plainVs, hq, i1], ?_⟩
              rcases i2 with ⟨s', b, k, cs', e1, e2⟩ | ⟨e1, e2⟩
              · exact .inl ⟨s', b, k, cs', by rw [e1]; rfl, e2⟩
              · exact .inr ⟨by rw [e1]; rfl, e2⟩
            · cases h1
          · cases h3
theorem acSum1_ok {f : FuncId} (ho : Own P f) {ty : TypeId} {es : Nat} {F : List AV → Bool → Option (LV × Bool × List (Bool × Bool))}
    (hF1 : ∀ avs hb r, F avs hb = some r → ∃ (pre : List LV) (xs : List Int), avs = pre.map AV.pl ++ [.ints xs])
    (h : ∀ (pre : List LV) (xs : List Int) (hb : Bool) (v : LV) (h' : Bool) (cs : List (Bool × Bool)), F (pre.map AV.pl ++ [.ints xs]) hb = some (v, h', cs) → (∀ c ∈ cs, c.1 = c.2) → plainVs pre = true → v.ok noP = true →
      (∀ (k : Blk) (o n c : Nat), SlAt es k o n xs → n ≤ c → ∀ (E : Env) (w : World), Rel E (getM [(0, flag ty hb), (1, k)]) w →
        Calls P f ((A0 :: (pre ++ [.v (.one (.slx 1 o n c))])).map (LV.den E)).toArray w fun e w' => e = .returned (v.den E0) ∧ Lcl E [(0, flag ty hb), (1, k)] [(0, flag ty h'), (1, k)] w w') ∧
      (xs = [] → ∀ (E : Env) (w : World), Rel E (getM [(0, flag ty hb)]) w →
        Calls P f ((A0 :: (pre ++ [.v (.one .nilsl)])).map (LV.den E)).toArray w fun e w' => e = .returned (v.den E0) ∧ Lcl E [(0, flag ty hb)] [(0, flag ty h')] w w')) : SumOK P f (acSum ty es F) := by
  intro args t g nb p rdB wrB ans ws E w hs hr hw _ hgo hz hc hrel hg hargs hn
  unfold acSum at hs
  split at hs
  · rename_i c rest
    split at hs
    · rename_i bl hbl
      split at hs
      · rename_i hmem
        cases hs
        simp only at hgo hw hr
        split at hgo
        · rename_i t' hb
          split at hgo
          · rename_i hty
            rw [nbeq] at hty
            have hty' : t' = ty := by simpa using hty
            subst hty'
            split at hgo
            · rename_i avs cs0 has
              split at hgo
              · rename_i v h' cs hF
                split at hgo
                · rename_i hv
                  cases hgo
                  obtain ⟨kc, r', hkc, hr', hrr⟩ := liveAll_cons hw
                  cases liveAll_nil hr'
                  cases hrr
                  simp only [zipW] at hz
                  cases hz
                  simp only at hc ⊢
                  have hc0 : ∀ c ∈ cs0, c.1 = c.2 := fun c hcm => hc c (List.mem_append_left _ hcm)
                  have hc1 : ∀ c ∈ cs, c.1 = c.2 := fun c hcm => hc c (List.mem_append_right _ hcm)
                  obtain ⟨pre, xs, rfl⟩ := hF1 _ _ _ hF
                  obtain ⟨hp, hcase⟩ := shape1 (es := es) (xs := xs) (g := g) pre rest rdB bl cs0 hbl hr has hc0
                  obtain ⟨H1, H2⟩ := h pre xs hb v h' cs hF hc1 hp hv
                  have hpre := plainVs_iff.1 hp
                  have hf0 : (⟨t', (0, 0), 0, [.bool hb]⟩ : Blk) = flag t' hb := rfl
                  rw [hf0] at hkc
                  rcases hcase with ⟨s, b, k, csl, rfl, hsl, rfl, hk, hsi, hcl0⟩ | ⟨rfl, hx⟩
                  · have hcb : c ≠ b := fun e => by rw [e] at hmem; simp [memB] at hmem
                    obtain ⟨o, n, cc, hsa, hncc, hden⟩ := slInts_loc hsi hcl0 hsl (hrel.blk b k hk)
                    generalize hE1 : (fun i => E (ren2 c b i)) = E1
                    have hE : ∀ i, E1 i = E (ren2 c b i) := fun i => by rw [← hE1]
                    have hcl := H1 k o n cc hsa hncc E1 w (rel2 hrel hkc hk hcb rfl hsa.2.2 (hE 0) (hE 1))
                    refine call_up ho hE hrel hkc rfl rfl (fun i q hq => ?_) (fun i q h0 hq => ?_) (fun i q hq => ?_) ?_ hv hcl
                    · rcases get2 hq with ⟨rfl, rfl⟩ | ⟨rfl, rfl⟩
                      · exact hkc
                      · exact hk
                    · rw [getM_cons, if_neg h0] at hq ⊢; exact hq
                    · rcases get2 hq with ⟨rfl, rfl⟩ | ⟨rfl, rfl⟩
                      · rfl
                      · exact hsa.2.2
                    · simp only [List.map_cons, List.map_append, List.map_nil]
                      rw [hden E1 1 (hE 1), denL_noP hpre, denL_noP (E := E1) hpre]
                      congr 1
                      show LV.den E (.v (.one (.ptr c 0))) = LV.den E1 (.v (.one (.ptr 0 0)))
                      simp only [LV.den, V1.den, At.den, hE, ren2]
                  · generalize hE1 : (fun _ : Nat => E c) = E1
                    have hE : ∀ i, E1 i = E ((fun _ => c) i) := fun i => by rw [← hE1]
                    have hcl := H2 hx E1 w (rel1 hrel hkc rfl (hE 0))
                    refine call_up ho hE hrel hkc rfl rfl (fun i q hq => ?_) (fun i q h0 hq => ?_) (fun i q hq => ?_) ?_ hv hcl
                    · obtain ⟨rfl, rfl⟩ := get1 hq; exact hkc
                    · exact absurd (get1 hq).1 h0
                    · obtain ⟨rfl, rfl⟩ := get1 hq; rfl
                    · simp only [List.map_cons, List.map_append, List.map_nil]
                      rw [denL_noP hpre, denL_noP (E := E1) hpre]
                      congr 1
                      show LV.den E (.v (.one (.ptr c 0))) = LV.den E1 (.v (.one (.ptr 0 0)))
                      simp only [LV.den, V1.den, At.den, hE]
                · cases hgo
              · cases hgo
            · cases hgo
          · cases hgo
        · cases hgo
      · cases hs
    · cases hs
  · cases hs
end
end Go.Lr

/- The local evaluator: summaries of functions that are handed two slices of numbers. -/
namespace Go.Lr
open Go.RowKit
section
variable {P : Program} {S : FuncId → Option SumK} {z : Md}
def SlArg (es : Nat) (g : Nat → Option Blk) (s : LV) (bs : List Nat) (xs : List Int) : Prop :=
  (∃ b k cs, slB s = some b ∧ bs = [b] ∧ g b = some k ∧ slInts es s k = some (xs, cs) ∧ ∀ c ∈ cs, c.1 = c.2) ∨ (s = .v (.one .nilsl) ∧ bs = [] ∧ xs = [])
theorem shape1' {es : Nat} {xs : List Int} {g : Nat → Option Blk} {rest : List LV} {rdB : List Blk} {bl : List Nat} {cs0 : List (Bool × Bool)} (h1 : rdA rest = some bl) (h2 : liveAll g bl = some rdB) (h3 : avA es rest rdB = some ([.ints xs], cs0)) (h4 : ∀ c ∈ cs0, c.1 = c.2) :
    ∃ s, rest = [s] ∧ SlArg es g s bl xs := by
  obtain ⟨-, h⟩ := shape1 (es := es) (xs := xs) (g := g) [] rest rdB bl cs0 h1 h2 h3 h4
  rcases h with ⟨s, b, k, cs, e, h⟩ | ⟨e, h⟩
  · exact ⟨s, e, .inl ⟨b, k, cs, h⟩⟩
  · refine ⟨_, e, .inr ⟨rfl, ?_, h⟩⟩
    rw [e] at h1
    cases h1
    rfl
theorem shape2 {es : Nat} {xs ys : List Int} {g : Nat → Option Blk} : ∀ (pre : List LV) (rest : List LV) (rdB : List Blk) (bl : List Nat) (cs0 : List (Bool × Bool)), rdA rest = some bl → liveAll g bl = some rdB → avA es rest rdB = some (pre.map AV.pl ++ [.ints xs, .ints ys], cs0) → (∀ c ∈ cs0, c.1 = c.2) →
  plainVs pre = true ∧ ∃ s1 s2 b1 b2, rest = pre ++ [s1, s2] ∧ bl = b1 ++ b2 ∧ SlArg es g s1 b1 xs ∧ SlArg es g s2 b2 ys := by
  intro pre
  induction pre with
  | nil =>
    intro rest rdB bl cs0 h1 h2 h3 h4
    refine ⟨rfl, ?_⟩
    cases rest with
    | nil => simp [avA] at h3
    | cons s rest =>
      simp only [avA, List.map_nil, List.nil_append] at h3
      split at h3
      · rename_i b hsl
        simp only [rdA, hsl] at h1
        split at h1
        · rename_i r hr1
          cases h1
          obtain ⟨k, r', hk, hr', rfl⟩ := liveAll_cons h2
          simp only at h3
          split at h3
          · rename_i xs' cs1 hx
            split at h3
            · rename_i r2 cs2 hav
              simp only [Option.some.injEq, Prod.mk.injEq, List.cons.injEq, AV.ints.injEq] at h3
              obtain ⟨⟨rfl, hnil⟩, hcs⟩ := h3
              subst hnil
              subst hcs
              obtain ⟨s2, rfl, h⟩ := shape1' hr1 hr' hav fun c hcm => h4 c (List.mem_append_right _ hcm)
              exact ⟨s, s2, [b], r, rfl, rfl, .inl ⟨b, k, cs1, hsl, rfl, hk, hx, fun c hcm => h4 c (List.mem_append_left _ hcm)⟩, h⟩
            · cases h3
          · cases h3
        · cases h1
      · rename_i hsl
        split at h3
        · rename_i hnil
          split at h3
          · rename_i r2 cs2 hav
            simp only [Option.some.injEq, Prod.mk.injEq, List.cons.injEq, AV.ints.injEq] at h3
            obtain ⟨⟨hx, hn2⟩, hcs⟩ := h3
            subst hn2
            simp only [rdA, hsl] at h1
            split at h1
            · obtain ⟨s2, rfl, h⟩ := shape1' h1 h2 hav fun c hcm => h4 c (by rw [← hcs]; exact hcm)
              refine ⟨s, s2, [], bl, rfl, rfl, .inr ⟨?_, rfl, hx.symm⟩, h⟩
              unfold isNilS at hnil
              split at hnil
              · rfl
              · cases hnil
            · cases h1
          · cases h3
        · split at h3 <;> simp at h3
  | cons q pre ih =>
    intro rest rdB bl cs0 h1 h2 h3 h4
    cases rest with
    | nil => simp [avA] at h3
    | cons s rest =>
      simp only [avA, List.map_cons, List.cons_append] at h3
      split at h3
      · rename_i b hsl
        (repeat' split at h3) <;> simp at h3
      · rename_i hsl
        split at h3
        · (repeat' split at h3) <;> simp at h3
        · split at h3
          · rename_i r2 cs2 hav
            simp only [Option.some.injEq, Prod.mk.injEq, List.cons.injEq, AV.pl.injEq] at h3
            obtain ⟨⟨rfl, hr2⟩, rfl⟩ := h3
            simp only [rdA, hsl] at h1
            split at h1
            · rename_i hq
              rw [hr2] at hav
              obtain ⟨i1, s1, s2, b1, b2, i2, i3⟩ := ih rest rdB bl cs2 h1 h2 hav h4
              exact ⟨by simp only [plainVs, hq, i1], s1, s2, b1, b2, by rw [i2]; rfl, i3⟩
            · cases h1
          · cases h3
theorem get3 {kc k1 k2 q : Blk} {i : Nat} (hq : getM [(0, kc), (1, k1), (2, k2)] i = some q) : (i = 0 ∧ q = kc) ∨ (i = 1 ∧ q = k1) ∨ (i = 2 ∧ q = k2) := by
  rw [getM_cons] at hq
  by_cases hi : i = 0
  · subst hi; rw [if_pos rfl] at hq; cases hq; exact .inl ⟨rfl, rfl⟩
  · rw [if_neg hi, getM_cons] at hq
    by_cases hi1 : i = 1
    · subst hi1; rw [if_pos rfl] at hq; cases hq; exact .inr (.inl ⟨rfl, rfl⟩)
    · rw [if_neg hi1, getM_cons] at hq
      by_cases hi2 : i = 2
      · subst hi2; rw [if_pos rfl] at hq; cases hq; exact .inr (.inr ⟨rfl, rfl⟩)
      · rw [if_neg hi2] at hq; simp [getM] at hq
theorem rel3 {E E1 : Env} {g : Nat → Option Blk} {w : World} {c b1 b2 : Nat} {kc k1 k2 : Blk} (hrel : Rel E g w) (hkc : g c = some kc) (hk1 : g b1 = some k1) (hk2 : g b2 = some k2) (h01 : c ≠ b1) (h02 : c ≠ b2) (h12 : b1 ≠ b2)
    (o0 : okL noP kc.cells = true) (o1 : okL noP k1.cells = true) (o2 : okL noP k2.cells = true) (h0 : E1 0 = E c) (h1 : E1 1 = E b1) (h2 : E1 2 = E b2) : Rel E1 (getM [(0, kc), (1, k1), (2, k2)]) w := by
  refine ⟨fun i q hq => ?_, fun i j hi hj he => ?_⟩
  · rcases get3 hq with ⟨rfl, rfl⟩ | ⟨rfl, rfl⟩ | ⟨rfl, rfl⟩
    · exact blkAt_ren o0 h0 (hrel.blk c _ hkc)
    · exact blkAt_ren o1 h1 (hrel.blk b1 _ hk1)
    · exact blkAt_ren o2 h2 (hrel.blk b2 _ hk2)
  · have i01 : ∀ {a b}, (g a).isSome → (g b).isSome → a ≠ b → (E a).1 ≠ (E b).1 := fun ha hb hn e => hn (hrel.inj _ _ ha hb e)
    have sc : (g c).isSome := by rw [hkc]; rfl
    have s1 : (g b1).isSome := by rw [hk1]; rfl
    have s2 : (g b2).isSome := by rw [hk2]; rfl
    obtain ⟨qi, hqi⟩ := Option.isSome_iff_exists.1 hi
    obtain ⟨qj, hqj⟩ := Option.isSome_iff_exists.1 hj
    rcases get3 hqi with ⟨rfl, -⟩ | ⟨rfl, -⟩ | ⟨rfl, -⟩ <;> rcases get3 hqj with ⟨rfl, -⟩ | ⟨rfl, -⟩ | ⟨rfl, -⟩
    · rfl
    · rw [h0, h1] at he; exact absurd he (i01 sc s1 h01)
    · rw [h0, h2] at he; exact absurd he (i01 sc s2 h02)
    · rw [h0, h1] at he; exact absurd he.symm (i01 sc s1 h01)
    · rfl
    · rw [h1, h2] at he; exact absurd he (i01 s1 s2 h12)
    · rw [h0, h2] at he; exact absurd he.symm (i01 sc s2 h02)
    · rw [h1, h2] at he; exact absurd he.symm (i01 s1 s2 h12)
    · rfl
def ren3 (a b c : Nat) : Nat → Nat
  | 0 => a
  | 1 => b
  | _ => c
def NIL : LV := .v (.one .nilsl)
def SLX (b o n c : Nat) : LV := .v (.one (.slx b o n c))
structure Two (P : Program) (f : FuncId) (ty : TypeId) (es : Nat) (pre : List LV) (xs ys : List Int) (hb h' : Bool) (v : LV) : Prop where
  two : ∀ (k1 : Blk) (o1 n1 c1 : Nat) (k2 : Blk) (o2 n2 c2 : Nat), SlAt es k1 o1 n1 xs → SlAt es k2 o2 n2 ys → ∀ (E : Env) (w : World), Rel E (getM [(0, flag ty hb), (1, k1), (2, k2)]) w →
    Calls P f ((A0 :: (pre ++ [SLX 1 o1 n1 c1, SLX 2 o2 n2 c2])).map (LV.den E)).toArray w fun e w' => e = .returned (v.den E0) ∧ Lcl E [(0, flag ty hb), (1, k1), (2, k2)] [(0, flag ty h'), (1, k1), (2, k2)] w w'
  one : ∀ (k : Blk) (o1 n1 c1 : Nat) (o2 n2 c2 : Nat), SlAt es k o1 n1 xs → SlAt es k o2 n2 ys → ∀ (E : Env) (w : World), Rel E (getM [(0, flag ty hb), (1, k)]) w →
    Calls P f ((A0 :: (pre ++ [SLX 1 o1 n1 c1, SLX 1 o2 n2 c2])).map (LV.den E)).toArray w fun e w' => e = .returned (v.den E0) ∧ Lcl E [(0, flag ty hb), (1, k)] [(0, flag ty h'), (1, k)] w w'
  right : xs = [] → ∀ (k : Blk) (o n c : Nat), SlAt es k o n ys → ∀ (E : Env) (w : World), Rel E (getM [(0, flag ty hb), (1, k)]) w →
    Calls P f ((A0 :: (pre ++ [NIL, SLX 1 o n c])).map (LV.den E)).toArray w fun e w' => e = .returned (v.den E0) ∧ Lcl E [(0, flag ty hb), (1, k)] [(0, flag ty h'), (1, k)] w w'
  left : ys = [] → ∀ (k : Blk) (o n c : Nat), SlAt es k o n xs → ∀ (E : Env) (w : World), Rel E (getM [(0, flag ty hb), (1, k)]) w →
    Calls P f ((A0 :: (pre ++ [SLX 1 o n c, NIL])).map (LV.den E)).toArray w fun e w' => e = .returned (v.den E0) ∧ Lcl E [(0, flag ty hb), (1, k)] [(0, flag ty h'), (1, k)] w w'
  none : xs = [] → ys = [] → ∀ (E : Env) (w : World), Rel E (getM [(0, flag ty hb)]) w →
    Calls P f ((A0 :: (pre ++ [NIL, NIL])).map (LV.den E)).toArray w fun e w' => e = .returned (v.den E0) ∧ Lcl E [(0, flag ty hb)] [(0, flag ty h')] w w'
theorem acSum2_ok {f : FuncId} (ho : Own P f) {ty : TypeId} {es : Nat} {F : List AV → Bool → Option (LV × Bool × List (Bool × Bool))}
    (hF1 : ∀ avs hb r, F avs hb = some r → ∃ (pre : List LV) (xs ys : List Int), avs = pre.map AV.pl ++ [.ints xs, .ints ys])
    (h : ∀ (pre : List LV) (xs ys : List Int) (hb : Bool) (v : LV) (h' : Bool) (cs : List (Bool × Bool)), F (pre.map AV.pl ++ [.ints xs, .ints ys]) hb = some (v, h', cs) → (∀ c ∈ cs, c.1 = c.2) → plainVs pre = true → v.ok noP = true →
      Two P f ty es pre xs ys hb h' v) : SumOK P f (acSum ty es F) := by
  intro args t g nb p rdB wrB ans ws E w hs hr hw _ hgo hz hc hrel hg hargs hn
  unfold acSum at hs
  split at hs
  · rename_i c rest
    split at hs
    · rename_i bl hbl
      split at hs
      · rename_i hmem
        cases hs
        simp only at hgo hw hr
        split at hgo
        · rename_i t' hb
          split at hgo
          · rename_i hty
            rw [nbeq] at hty
            have hty' : t' = ty := by simpa using hty
            subst hty'
            split at hgo
            · rename_i avs cs0 has
              split at hgo
              · rename_i v h' cs hF
                split at hgo
                · rename_i hv
                  cases hgo
                  obtain ⟨kc, r', hkc, hr', hrr⟩ := liveAll_cons hw
                  cases liveAll_nil hr'
                  cases hrr
                  simp only [zipW] at hz
                  cases hz
                  simp only at hc ⊢
                  have hc0 : ∀ c ∈ cs0, c.1 = c.2 := fun c hcm => hc c (List.mem_append_left _ hcm)
                  have hc1 : ∀ c ∈ cs, c.1 = c.2 := fun c hcm => hc c (List.mem_append_right _ hcm)
                  obtain ⟨pre, xs, ys, rfl⟩ := hF1 _ _ _ hF
                  obtain ⟨hp, s1, s2, b1, b2, rfl, rfl, hs1, hs2⟩ := shape2 (es := es) (xs := xs) (ys := ys) (g := g) pre rest rdB bl cs0 hbl hr has hc0
                  have H := h pre xs ys hb v h' cs hF hc1 hp hv
                  have hpre := plainVs_iff.1 hp
                  have hf0 : (⟨t', (0, 0), 0, [.bool hb]⟩ : Blk) = flag t' hb := rfl
                  rw [hf0] at hkc
                  have hnc : ∀ b ∈ b1 ++ b2, c ≠ b := fun b hbm e => by
                    subst e
                    have := memB_false hmem
                    exact this hbm
                  rcases hs1 with ⟨d1, k1, q1, e1, rfl, hk1, hi1, hq1⟩ | ⟨rfl, rfl, rfl⟩ <;> rcases hs2 with ⟨d2, k2, q2, e2, rfl, hk2, hi2, hq2⟩ | ⟨rfl, rfl, rfl⟩
                  · obtain ⟨o1, n1, cc1, hsa1, -, hden1⟩ := slInts_loc hi1 hq1 e1 (hrel.blk d1 k1 hk1)
                    obtain ⟨o2, n2, cc2, hsa2, -, hden2⟩ := slInts_loc hi2 hq2 e2 (hrel.blk d2 k2 hk2)
                    have hc1 : c ≠ d1 := hnc d1 (by simp)
                    have hc2 : c ≠ d2 := hnc d2 (by simp)
                    by_cases hd : d1 = d2
                    · subst hd
                      rw [hk1] at hk2
                      cases hk2
                      generalize hE1 : (fun i => E (ren2 c d1 i)) = E1
                      have hE : ∀ i, E1 i = E (ren2 c d1 i) := fun i => by rw [← hE1]
                      have hcl := H.one k1 o1 n1 cc1 o2 n2 cc2 hsa1 hsa2 E1 w (rel2 hrel hkc hk1 hc1 rfl hsa1.2.2 (hE 0) (hE 1))
                      refine call_up ho hE hrel hkc rfl rfl (fun i q hq => ?_) (fun i q h0 hq => ?_) (fun i q hq => ?_) ?_ hv hcl
                      · rcases get2 hq with ⟨rfl, rfl⟩ | ⟨rfl, rfl⟩
                        · exact hkc
                        · exact hk1
                      · rw [getM_cons, if_neg h0] at hq ⊢; exact hq
                      · rcases get2 hq with ⟨rfl, rfl⟩ | ⟨rfl, rfl⟩
                        · rfl
                        · exact hsa1.2.2
                      · simp only [List.map_cons, List.map_append, List.map_nil]
                        rw [hden1 E1 1 (hE 1), hden2 E1 1 (hE 1), denL_noP hpre, denL_noP (E := E1) hpre]
                        congr 1
                        show LV.den E (.v (.one (.ptr c 0))) = LV.den E1 (.v (.one (.ptr 0 0)))
                        simp only [LV.den, V1.den, At.den, hE, ren2]
                    · generalize hE1 : (fun i => E (ren3 c d1 d2 i)) = E1
                      have hE : ∀ i, E1 i = E (ren3 c d1 d2 i) := fun i => by rw [← hE1]
                      have hcl := H.two k1 o1 n1 cc1 k2 o2 n2 cc2 hsa1 hsa2 E1 w (rel3 hrel hkc hk1 hk2 hc1 hc2 hd rfl hsa1.2.2 hsa2.2.2 (hE 0) (hE 1) (hE 2))
                      refine call_up ho hE hrel hkc rfl rfl (fun i q hq => ?_) (fun i q h0 hq => ?_) (fun i q hq => ?_) ?_ hv hcl
                      · rcases get3 hq with ⟨rfl, rfl⟩ | ⟨rfl, rfl⟩ | ⟨rfl, rfl⟩
                        · exact hkc
                        · exact hk1
                        · exact hk2
                      · rw [getM_cons, if_neg h0] at hq ⊢; exact hq
                      · rcases get3 hq with ⟨rfl, rfl⟩ | ⟨rfl, rfl⟩ | ⟨rfl, rfl⟩
                        · rfl
                        · exact hsa1.2.2
                        · exact hsa2.2.2
                      · simp only [List.map_cons, List.map_append, List.map_nil]
                        rw [hden1 E1 1 (hE 1), hden2 E1 2 (hE 2), denL_noP hpre, denL_noP (E := E1) hpre]
                        congr 1
                        show LV.den E (.v (.one (.ptr c 0))) = LV.den E1 (.v (.one (.ptr 0 0)))
                        simp only [LV.den, V1.den, At.den, hE, ren3]
                  · obtain ⟨o1, n1, cc1, hsa1, -, hden1⟩ := slInts_loc hi1 hq1 e1 (hrel.blk d1 k1 hk1)
                    have hc1 : c ≠ d1 := hnc d1 (by simp)
                    generalize hE1 : (fun i => E (ren2 c d1 i)) = E1
                    have hE : ∀ i, E1 i = E (ren2 c d1 i) := fun i => by rw [← hE1]
                    have hcl := H.left rfl k1 o1 n1 cc1 hsa1 E1 w (rel2 hrel hkc hk1 hc1 rfl hsa1.2.2 (hE 0) (hE 1))
                    refine call_up ho hE hrel hkc rfl rfl (fun i q hq => ?_) (fun i q h0 hq => ?_) (fun i q hq => ?_) ?_ hv hcl
                    · rcases get2 hq with ⟨rfl, rfl⟩ | ⟨rfl, rfl⟩
                      · exact hkc
                      · exact hk1
                    · rw [getM_cons, if_neg h0] at hq ⊢; exact hq
                    · rcases get2 hq with ⟨rfl, rfl⟩ | ⟨rfl, rfl⟩
                      · rfl
                      · exact hsa1.2.2
                    · simp only [List.map_cons, List.map_append, List.map_nil]
                      rw [hden1 E1 1 (hE 1), denL_noP hpre, denL_noP (E := E1) hpre]
                      congr 1
                      show LV.den E (.v (.one (.ptr c 0))) = LV.den E1 (.v (.one (.ptr 0 0)))
                      simp only [LV.den, V1.den, At.den, hE, ren2]
                  · obtain ⟨o1, n1, cc1, hsa1, -, hden1⟩ := slInts_loc hi2 hq2 e2 (hrel.blk d2 k2 hk2)
                    have hc1 : c ≠ d2 := hnc d2 (by simp)
                    generalize hE1 : (fun i => E (ren2 c d2 i)) = E1
                    have hE : ∀ i, E1 i = E (ren2 c d2 i) := fun i => by rw [← hE1]
                    have hcl := H.right rfl k2 o1 n1 cc1 hsa1 E1 w (rel2 hrel hkc hk2 hc1 rfl hsa1.2.2 (hE 0) (hE 1))
                    refine call_up ho hE hrel hkc rfl rfl (fun i q hq => ?_) (fun i q h0 hq => ?_) (fun i q hq => ?_) ?_ hv hcl
                    · rcases get2 hq with ⟨rfl, rfl⟩ | ⟨rfl, rfl⟩
                      · exact hkc
                      · exact hk2
                    · rw [getM_cons, if_neg h0] at hq ⊢; exact hq
                    · rcases get2 hq with ⟨rfl, rfl⟩ | ⟨rfl, rfl⟩
                      · rfl
                      · exact hsa1.2.2
                    · simp only [List.map_cons, List.map_append, List.map_nil]
                      rw [hden1 E1 1 (hE 1), denL_noP hpre, denL_noP (E := E1) hpre]
                      congr 1
                      show LV.den E (.v (.one (.ptr c 0))) = LV.den E1 (.v (.one (.ptr 0 0)))
                      simp only [LV.den, V1.den, At.den, hE, ren2]
                  · generalize hE1 : (fun _ : Nat => E c) = E1
                    have hE : ∀ i, E1 i = E ((fun _ => c) i) := fun i => by rw [← hE1]
                    have hcl := H.none rfl rfl E1 w (rel1 hrel hkc rfl (hE 0))
                    refine call_up ho hE hrel hkc rfl rfl (fun i q hq => ?_) (fun i q h0 hq => ?_) (fun i q hq => ?_) ?_ hv hcl
                    · obtain ⟨rfl, rfl⟩ := get1 hq; exact hkc
                    · exact absurd (get1 hq).1 h0
                    · obtain ⟨rfl, rfl⟩ := get1 hq; rfl
                    · simp only [List.map_cons, List.map_append, List.map_nil]
                      rw [denL_noP hpre, denL_noP (E := E1) hpre]
                      congr 1
                      show LV.den E (.v (.one (.ptr c 0))) = LV.den E1 (.v (.one (.ptr 0 0)))
                      simp only [LV.den, V1.den, At.den, hE]
                · cases hgo
              · cases hgo
            · cases hgo
          · cases hgo
        · cases hgo
      · cases hs
    · cases hs
  · cases hs
end
end Go.Lr

/- The local evaluator: what is not in the log of what was written lies as it lay. -/
set_option linter.unusedVariables false
namespace Go.Lr
structure Kept (s s' : St) : Prop where
  lg : ∀ i ∈ s.lg, i ∈ s'.lg
  nb : s.nb ≤ s'.nb
  mem : ∀ i, i < s.nb → i ∉ s'.lg → getM s'.mem i = getM s.mem i
theorem Kept.refl (s : St) : Kept s s := ⟨fun _ h => h, Nat.le_refl _, fun _ _ _ => rfl⟩
theorem Kept.trans {a b c : St} (h : Kept a b) (k : Kept b c) : Kept a c :=
  ⟨fun i hi => k.lg i (h.lg i hi), Nat.le_trans h.nb k.nb, fun i hi hn => by rw [k.mem i (Nat.lt_of_lt_of_le hi h.nb) hn, h.mem i hi fun hh => hn (k.lg i hh)]⟩
theorem Kept.of {a b a' b' : St} (h : Kept a b) (h1 : a'.lg = a.lg) (h2 : a'.nb = a.nb) (h3 : a'.mem = a.mem) (h4 : b'.lg = b.lg) (h5 : b'.nb = b.nb) (h6 : b'.mem = b.mem) : Kept a' b' :=
  ⟨by rw [h1, h4]; exact h.lg, by rw [h2, h5]; exact h.nb, by rw [h2, h3, h4, h6]; exact h.mem⟩
theorem getM_setM_ne : ∀ (m : Mem) (i : Nat) (s : Option Blk) (j : Nat), j ≠ i → getM (setM m i s) j = getM m j
  | [], i, s, j, h => rfl
  | (k, b) :: m, i, s, j, h => by
    simp only [setM, nbeq]
    by_cases hk : k = i
    · subst hk
      simp only [decide_true]
      cases s with
      | none =>
        simp only
        rw [getM_cons, if_neg h]
      | some c =>
        simp only
        rw [getM_cons, getM_cons, if_neg h, if_neg h]
    · simp only [hk, decide_false]
      rw [getM_cons, getM_cons, getM_setM_ne m i s j h]
theorem getM_putAll_ne : ∀ (l : List (Nat × Option Blk)) (m : Mem) (j : Nat), (∀ x ∈ l, x.1 ≠ j) → getM (putAll m l) j = getM m j
  | [], m, j, _ => rfl
  | (i, s) :: l, m, j, h => by
    simp only [putAll]
    rw [getM_putAll_ne l _ j fun x hx => h x (List.mem_cons_of_mem _ hx), getM_setM_ne m i s j (h (i, s) (List.mem_cons_self ..)).symm]
theorem getM_newAll_lt : ∀ (l : List Blk) (m : Mem) (nb j : Nat), j < nb → getM (newAll m nb l) j = getM m j
  | [], m, nb, j, _ => rfl
  | b :: l, m, nb, j, h => by
    simp only [newAll]
    rw [getM_newAll_lt l _ (nb + 1) j (by omega), getM_cons, if_neg (by omega)]
theorem putDK_some {β : Type} {s : St} {dst : Option Tmp} {v : LV} {k : Tr → Option β} {r : β} (h : putDK s dst v k = some r) : ∃ tm, k tm = some r := by
  unfold putDK at h
  split at h
  · split at h
    · rw [setTK_eq] at h; exact ⟨_, h⟩
    · cases h
  · exact ⟨_, h⟩
theorem appK_kept {β : Type} {z : Md} {s : St} {dst : Option Tmp} {d : Dl} {dec : List (Option Bool)} {cs : List (Bool × Bool)} {k : St → Option β} {r : β} (h : appK z s dst d dec cs k = some r) : ∃ s1, k s1 = some r ∧ Kept s s1 := by
  unfold appK at h
  rw [forceN_eq, forceV_eq] at h
  obtain ⟨tm, h1⟩ := putDK_some h
  rw [putAllK_eq, newAllK_eq] at h1
  obtain ⟨lg', hlg, g1, g2⟩ := logK_eq s.lg d.wr (fun lg => csK z.z d.cs s.cs fun c1 => csK z.z cs c1 fun c2 => k ⟨tm, s.sz, newAll (putAll s.mem d.wr) s.nb d.nw, s.nb + d.nw.length, dec, c2, lg⟩)
  rw [hlg] at h1
  obtain ⟨c1, h3, -⟩ := csK_spec h1
  obtain ⟨c2, h5, -⟩ := csK_spec h3
  refine ⟨_, h5, ⟨g1, Nat.le_add_right _ _, fun i hi hn => ?_⟩⟩
  show getM (newAll (putAll s.mem d.wr) s.nb d.nw) i = _
  rw [getM_newAll_lt _ _ _ _ hi, getM_putAll_ne]
  exact fun x hx e => hn (e ▸ g2 x hx)
theorem drawSeq_kept {P : Program} {S : FuncId → Option SumK} {z : Md} {all : List Oper} : ∀ (l : List Oper) (s : St) (acc : List Rec) (s' : St) (acc' : List Rec), drawSeq P S z all l s acc = some (s', acc') → Kept s s'
  | [], s, acc, s', acc', h => by simp only [drawSeq, Option.some.injEq, Prod.mk.injEq] at h; rw [← h.1]; exact .refl _
  | o :: l, s, acc, s', acc', h => by
    simp only [drawSeq] at h
    split at h
    · obtain ⟨s1, h1, h2⟩ := appK_kept h
      exact h2.trans (drawSeq_kept l s1 _ s' acc' h1)
    · cases h
theorem backM_kept {β : Type} {y : Bool} {nb : Nat} {v : LV} {m : Mem} {k : Mem → β} {r : β} (h : backM y nb v m k = r) : ∃ m', k m' = r ∧ ∀ i, i < nb → getM m' i = getM m i := by
  unfold backM at h
  split at h
  · exact ⟨m, h, fun _ _ => rfl⟩
  · split at h
    · rw [forceL_eq] at h
      exact ⟨_, h, fun i hi => by rw [getM_dropM, if_pos hi]⟩
    · exact ⟨m, h, fun _ _ => rfl⟩
theorem exec_kept {P : Program} {S : FuncId → Option SumK} {z : Md} : ∀ (n : Nat) (c : Cmd) (s : St) (out : Out) (s' : St), exec P S z n c s = some (out, s') → Kept s s'
  | 0, c, s, out, s', h => by simp [exec] at h
  | n + 1, c, s, out, s', h => by
    have ih := exec_kept (P := P) (S := S) (z := z) n
    simp only [exec, step1] at h
    cases c with
    | code c =>
      simp only at h
      cases c with
      | skip => simp only [codeStep, Option.some.injEq, Prod.mk.injEq] at h; rw [← h.2]; exact .refl _
      | region id ops draw =>
        cases draw with
        | false => simp only [codeStep] at h; exact ih _ _ _ _ h
        | true =>
          simp only [codeStep] at h
          unfold drawStep at h
          split at h
          · rename_i s1 hr
            simp only [Option.some.injEq, Prod.mk.injEq] at h
            rw [← h.2]
            unfold drawRun at hr
            split at hr
            · rename_i s2 acc hs2
              split at hr
              · cases hr; exact drawSeq_kept _ _ _ _ _ hs2
              · cases hr
            · cases hr
          · cases h
      | seq a b =>
        simp only [codeStep] at h
        cases hq : exec P S z n (.code a) s with
        | none => rw [hq] at h; cases h
        | some q =>
          obtain ⟨o1, s1⟩ := q
          have k1 := ih _ _ _ _ hq
          rw [hq] at h
          unfold seqStep at h
          split at h
          · rename_i s2 he
            cases he
            exact k1.trans (ih _ _ _ _ h)
          · cases h; exact k1
      | cond c a b =>
        simp only [codeStep] at h
        unfold condStep at h
        split at h
        · split at h
          · split at h
            · obtain ⟨c1, h1, -⟩ := csK_spec h
              exact (ih _ _ _ _ h1).of rfl rfl rfl rfl rfl rfl
            · obtain ⟨c1, h1, -⟩ := csK_spec h
              exact (ih _ _ _ _ h1).of rfl rfl rfl rfl rfl rfl
            · cases h
        · cases h
      | block id a =>
        simp only [codeStep] at h
        cases hq : exec P S z n (.code a) s with
        | none => rw [hq] at h; cases h
        | some q =>
          obtain ⟨o1, s1⟩ := q
          have k1 := ih _ _ _ _ hq
          rw [hq] at h
          unfold blockStep at h
          split at h
          · rename_i i s2 he
            cases he
            split at h <;> (cases h; exact k1)
          · cases h; exact k1
      | loop a =>
        simp only [codeStep] at h
        cases hq : exec P S z n (.code a) s with
        | none => rw [hq] at h; cases h
        | some q =>
          obtain ⟨o1, s1⟩ := q
          have k1 := ih _ _ _ _ hq
          rw [hq] at h
          unfold seqStep at h
          split at h
          · rename_i s2 he
            cases he
            exact k1.trans (ih _ _ _ _ h)
          · cases h; exact k1
      | exit id => simp only [codeStep, Option.some.injEq, Prod.mk.injEq] at h; rw [← h.2]; exact .refl _
      | ret => simp only [codeStep, Option.some.injEq, Prod.mk.injEq] at h; rw [← h.2]; exact .refl _
      | _ => simp [codeStep] at h
    | ops all l =>
      simp only at h
      unfold opsStep at h
      split at h
      · cases h; exact .refl _
      · split at h
        split at h
        · obtain ⟨s1, h1, h2⟩ := appK_kept h
          exact h2.trans (ih _ _ _ _ h1)
        · unfold doStep at h
          split at h
          · rename_i f args _
            obtain ⟨c1, h1, -⟩ := csK_spec h
            unfold inlStep at h1
            split at h1
            · rename_i v s1 hq
              have k1 := ih _ _ _ _ hq
              rw [forceV_eq] at h1
              obtain ⟨tm, h2⟩ := putDK_some h1
              obtain ⟨m', h3, h4⟩ := backM_kept h2
              have k2 := ih _ _ _ _ h3
              refine Kept.trans (b := ⟨tm, s1.sz, m', s1.nb, s1.dec, s1.cs, s1.lg⟩) ⟨k1.lg, k1.nb, fun i hi hn => ?_⟩ k2
              show getM m' i = _
              rw [h4 i hi, k1.mem i hi hn]
            · cases h1
          · split at h
            · obtain ⟨s1, h1, h2⟩ := appK_kept h
              exact h2.trans (ih _ _ _ _ h1)
            · cases h
        · cases h
    | body f args =>
      simp only at h
      unfold bodyStep at h
      split at h
      · rename_i fn _
        split at h
        · rename_i c _
          split at h
          · rw [argsTK_eq] at h
            cases hq : exec P S z n (.code c) ⟨argsT .nil 0 args, fn.ntmps, s.mem, s.nb, s.dec, s.cs, s.lg⟩ with
            | none => rw [hq] at h; cases h
            | some q =>
              obtain ⟨o1, s1⟩ := q
              have k1 := (ih _ _ _ _ hq).of (a' := s) (b' := s1) rfl rfl rfl rfl rfl rfl
              rw [hq] at h
              unfold endStep at h
              split at h
              · rename_i s2 he
                cases he
                split at h
                · cases h; exact k1.of rfl rfl rfl rfl rfl rfl
                · cases h
              · rename_i s2 he
                cases he
                split at h
                · cases h; exact k1.of rfl rfl rfl rfl rfl rfl
                · cases h
              · cases h
          · cases h
        · cases h
      · cases h
theorem runG_spec {P : Program} {S : FuncId → Option SumK} {z : Md} {n : Nat} {f : FuncId} {args : List LV} {m : Mem} {nb : Nat} {dec : List (Option Bool)} {v : LV} {m' : Mem} {cs : List (Bool × Bool)} {lg : List Nat}
    (h : runG P S z n f args m nb dec = some (v, m', cs, lg)) :
    (∃ s', exec P S z n (.body f args) ⟨.nil, 0, m, nb, dec, [], []⟩ = some (.val v, s') ∧ s'.mem = m' ∧ s'.cs = cs) ∧ ∀ i, i < nb → i ∉ lg → getM m' i = getM m i := by
  unfold runG at h
  split at h
  · rename_i v' s hq
    cases h
    exact ⟨⟨s, hq, rfl, rfl⟩, (exec_kept _ _ _ _ _ hq).mem⟩
  · cases h
end Go.Lr

/- The local evaluator: summaries of any functions, made by running them on all blocks that can be got at; new blocks are told by new numbers. -/
namespace Go.Lr
open Go.RowKit
def allLt (nb : Nat) : List Nat → Bool
  | [] => true
  | a :: l => match Nat.blt a nb with
    | true => allLt nb l
    | false => false
def okArgs (p : Nat → Bool) : List LV → Bool
  | [] => true
  | a :: l => match a.ok p with
    | true => okArgs p l
    | false => false
def posN (j : Nat) : Nat → List Nat → Option Nat
  | _, [] => none
  | k, a :: l => match Nat.beq a j with
    | true => some k
    | false => posN j (k + 1) l
def nmG (seen keys : List Nat) (nb : Nat) (i : Nat) : Option Nat :=
  match memB seen i with
  | true => some i
  | false => posN i nb keys
def rnC (φ : Nat → Option Nat) : List (Nat × Nat) → Option (List (Nat × Nat))
  | [] => some []
  | c :: l => match φ c.1, rnC φ l with
    | some b, some r => some ((b, c.2) :: r)
    | _, _ => none
def rnA (φ : Nat → Option Nat) : At → Option At
  | .ptr b o => match φ b with
    | some c => some (.ptr c o)
    | none => none
  | .sl b o n k => match φ b with
    | some c => some (.sl c o n k)
    | none => none
  | .slu b n => match φ b with
    | some c => some (.slu c n)
    | none => none
  | .slx b o n k => match φ b with
    | some c => some (.slx c o n k)
    | none => none
  | .ptx b o => match φ b with
    | some c => some (.ptx c o)
    | none => none
  | .slt b o n => match φ b with
    | some c => some (.slt c o n)
    | none => none
  | .fn f caps => match rnC φ caps with
    | some c => some (.fn f c)
    | none => none
  | a => some a
def rnL (φ : Nat → Option Nat) : List At → Option (List At)
  | [] => some []
  | a :: l => match rnA φ a, rnL φ l with
    | some b, some r => some (b :: r)
    | _, _ => none
def rnV1 (φ : Nat → Option Nat) : V1 → Option V1
  | .one a => match rnA φ a with
    | some b => some (.one b)
    | none => none
  | .agg l => match rnL φ l with
    | some r => some (.agg r)
    | none => none
def rnVs (φ : Nat → Option Nat) : List V1 → Option (List V1)
  | [] => some []
  | a :: l => match rnV1 φ a, rnVs φ l with
    | some b, some r => some (b :: r)
    | _, _ => none
def rnLV (φ : Nat → Option Nat) : LV → Option LV
  | .v x => match rnV1 φ x with
    | some y => some (.v y)
    | none => none
  | .tup l => match rnVs φ l with
    | some r => some (.tup r)
    | none => none
def rnB (φ : Nat → Option Nat) (b : Blk) : Option Blk :=
  match rnL φ b.cells with
  | some l => some ⟨b.ty, b.fr, b.es, l⟩
  | none => none
def rnBs (φ : Nat → Option Nat) : List Blk → Option (List Blk)
  | [] => some []
  | a :: l => match rnB φ a, rnBs φ l with
    | some b, some r => some (b :: r)
    | _, _ => none
def keysGe (nb : Nat) : Mem → List Nat
  | [] => []
  | (j, _) :: m => match Nat.ble nb j with
    | true => j :: keysGe nb m
    | false => keysGe nb m
def zipM : List Nat → List Blk → Mem
  | i :: l, k :: ks => (i, k) :: zipM l ks
  | _, _ => []
def wrsG (φ : Nat → Option Nat) (m : Mem) : List Nat → Option (List (Nat × Option Blk))
  | [] => some []
  | i :: l => match wrsG φ m l with
    | some r => match getM m i with
      | none => some ((i, none) :: r)
      | some b => match rnB φ b with
        | some c => some ((i, some c) :: r)
        | none => none
    | none => none
def keepIn (lg : List Nat) : List Nat → List Nat
  | [] => []
  | i :: l => match memB lg i with
    | true => i :: keepIn lg l
    | false => keepIn lg l
def outG (seen : List Nat) (nb : Nat) (v : LV) (m' : Mem) (cs : List (Bool × Bool)) (keys lg : List Nat) : Option Dl :=
  match nodupB keys, liveAll (getM m') keys with
  | true, some bs => match rnLV (nmG seen keys nb) v, wrsG (nmG seen keys nb) m' (keepIn lg seen), rnBs (nmG seen keys nb) bs with
    | some v', some ws, some bs' => some ⟨v', ws, bs', seen, cs⟩
    | _, _, _ => none
  | _, _ => none
def autoAD (P : Program) (S : FuncId → Option SumK) (z : Md) (n : Nat) (f : FuncId) (dec : List (Option Bool)) : List LV → List Nat → List Blk → Nat → Option Dl := fun args seen ks nb =>
  match nodupB seen, allLt nb seen, okArgs (memB seen) args, okBs (memB seen) ks with
  | true, true, true, true => match runG P S z n f args (zipM seen ks) nb dec with
    | some (v, m', cs, lg) => outG seen nb v m' cs (keysGe nb m') lg
    | none => none
  | _, _, _, _ => none
def autoA (P : Program) (S : FuncId → Option SumK) (z : Md) (n : Nat) (f : FuncId) : List LV → List Nat → List Blk → Nat → Option Dl := autoAD P S z n f []
theorem keepIn_mem {lg : List Nat} : ∀ {l : List Nat} {i : Nat}, i ∈ keepIn lg l ↔ i ∈ l ∧ i ∈ lg
  | [], i => by simp [keepIn]
  | a :: l, i => by
    simp only [keepIn]
    split
    · rename_i h
      have h := memB_iff.1 h
      simp only [List.mem_cons, keepIn_mem (l := l)]
      constructor
      · rintro (rfl | h2)
        · exact ⟨.inl rfl, h⟩
        · exact ⟨.inr h2.1, h2.2⟩
      · rintro ⟨rfl | h2, h3⟩
        · exact .inl rfl
        · exact .inr ⟨h2, h3⟩
    · rename_i h
      have h : a ∉ lg := fun hh => by rw [memB_iff.2 hh] at h; cases h
      simp only [List.mem_cons, keepIn_mem (l := l)]
      constructor
      · exact fun h2 => ⟨.inr h2.1, h2.2⟩
      · rintro ⟨rfl | h2, h3⟩
        · exact absurd h3 h
        · exact ⟨h2, h3⟩
theorem keepIn_nodup {lg : List Nat} : ∀ {l : List Nat}, l.Nodup → (keepIn lg l).Nodup
  | [], _ => by simp [keepIn]
  | a :: l, h => by
    simp only [List.nodup_cons] at h
    simp only [keepIn]
    split
    · exact List.nodup_cons.2 ⟨fun hh => h.1 (keepIn_mem.1 hh).1, keepIn_nodup h.2⟩
    · exact keepIn_nodup h.2
theorem allLt_iff {nb : Nat} : ∀ {l : List Nat}, allLt nb l = true → ∀ i ∈ l, i < nb
  | [], _, i, hi => by cases hi
  | a :: l, h, i, hi => by
    simp only [allLt, nblt] at h
    split at h
    · rename_i ha
      have ha' : a < nb := by simpa using ha
      rcases List.mem_cons.1 hi with rfl | hi
      · exact ha'
      · exact allLt_iff h i hi
    · cases h
theorem okArgs_iff {p : Nat → Bool} : ∀ {l : List LV}, okArgs p l = true → ∀ v ∈ l, v.ok p = true
  | [], _, i, hi => by cases hi
  | a :: l, h, i, hi => by
    simp only [okArgs] at h
    split at h
    · rename_i ha
      rcases List.mem_cons.1 hi with rfl | hi
      · exact ha
      · exact okArgs_iff h i hi
    · cases h
theorem posN_spec {j : Nat} : ∀ {l : List Nat} {k i : Nat}, posN j k l = some i → k ≤ i ∧ i < k + l.length ∧ l[i - k]? = some j
  | [], k, i, h => by simp [posN] at h
  | a :: l, k, i, h => by
    simp only [posN, nbeq] at h
    split at h
    · rename_i ha
      have ha' : a = j := by simpa using ha
      cases h
      subst ha'
      exact ⟨Nat.le_refl _, by simp, by simp⟩
    · obtain ⟨h1, h2, h3⟩ := posN_spec h
      refine ⟨by omega, by simp; omega, ?_⟩
      rw [show i - k = (i - (k + 1)) + 1 by omega, List.getElem?_cons_succ]
      exact h3
section
variable {φ : Nat → Option Nat} {E E' : Env}
theorem rnC_den (hφ : ∀ i c, φ i = some c → E' c = E i) : ∀ {l r : List (Nat × Nat)}, rnC φ l = some r → l.map (fun p => Value.pointer (some ⟨(E p.1).1, p.2 + (E p.1).pre.length, none⟩)) = r.map (fun p => Value.pointer (some ⟨(E' p.1).1, p.2 + (E' p.1).pre.length, none⟩))
  | [], r, h => by simp only [rnC] at h; cases h; rfl
  | c :: l, r, h => by
    simp only [rnC] at h
    split at h
    · rename_i b r' hb hr
      cases h
      simp only [List.map_cons, hφ _ _ hb, rnC_den hφ hr]
    · cases h
theorem rnA_den (hφ : ∀ i c, φ i = some c → E' c = E i) {a b : At} (h : rnA φ a = some b) : a.den E = b.den E' := by
  unfold rnA at h
  split at h
  · split at h
    · rename_i hc; cases h; simp only [At.den, hφ _ _ hc]
    · cases h
  · split at h
    · rename_i hc; cases h; simp only [At.den, hφ _ _ hc]
    · cases h
  · split at h
    · rename_i hc; cases h; simp only [At.den, hφ _ _ hc]
    · cases h
  · split at h
    · rename_i hc; cases h; simp only [At.den, hφ _ _ hc]
    · cases h
  · split at h
    · rename_i hc; cases h; simp only [At.den, hφ _ _ hc]
    · cases h
  · split at h
    · rename_i hc; cases h; simp only [At.den, hφ _ _ hc]
    · cases h
  · split at h
    · rename_i hc; cases h; simp only [At.den, rnC_den hφ hc]
    · cases h
  · rename_i h1 h2 h3 h4 h5 h7 h6
    cases h
    cases a with
    | ptr b o => exact absurd rfl (h1 b o)
    | sl b o n c => exact absurd rfl (h2 b o n c)
    | slu b n => exact absurd rfl (h3 b n)
    | slx b o n c => exact absurd rfl (h4 b o n c)
    | ptx b o => exact absurd rfl (h5 b o)
    | slt b o n => exact absurd rfl (h7 b o n)
    | fn f c => exact absurd rfl (h6 f c)
    | _ => rfl
theorem rnL_den (hφ : ∀ i c, φ i = some c → E' c = E i) : ∀ {l r : List At}, rnL φ l = some r → l.map (At.den E) = r.map (At.den E')
  | [], r, h => by simp only [rnL] at h; cases h; rfl
  | c :: l, r, h => by
    simp only [rnL] at h
    split at h
    · rename_i b r' hb hr
      cases h
      simp only [List.map_cons, rnA_den hφ hb, rnL_den hφ hr]
    · cases h
theorem rnL_len : ∀ {l r : List At}, rnL φ l = some r → r.length = l.length
  | [], r, h => by simp only [rnL] at h; cases h; rfl
  | c :: l, r, h => by
    simp only [rnL] at h
    split at h
    · rename_i b r' hb hr
      cases h
      simp only [List.length_cons, rnL_len hr]
    · cases h
theorem rnV1_den (hφ : ∀ i c, φ i = some c → E' c = E i) {a b : V1} (h : rnV1 φ a = some b) : a.den E = b.den E' := by
  unfold rnV1 at h
  split at h
  · split at h
    · rename_i hb; cases h; exact rnA_den hφ hb
    · cases h
  · split at h
    · rename_i hb; cases h; simp only [V1.den, rnL_den hφ hb]
    · cases h
theorem rnVs_den (hφ : ∀ i c, φ i = some c → E' c = E i) : ∀ {l r : List V1}, rnVs φ l = some r → l.map (V1.den E) = r.map (V1.den E')
  | [], r, h => by simp only [rnVs] at h; cases h; rfl
  | c :: l, r, h => by
    simp only [rnVs] at h
    split at h
    · rename_i b r' hb hr
      cases h
      simp only [List.map_cons, rnV1_den hφ hb, rnVs_den hφ hr]
    · cases h
theorem rnLV_den (hφ : ∀ i c, φ i = some c → E' c = E i) {a b : LV} (h : rnLV φ a = some b) : a.den E = b.den E' := by
  unfold rnLV at h
  split at h
  · split at h
    · rename_i hb; cases h; exact rnV1_den hφ hb
    · cases h
  · split at h
    · rename_i hb; cases h; simp only [LV.den, rnVs_den hφ hb]
    · cases h
theorem rnB_at (hφ : ∀ i c, φ i = some c → E' c = E i) {b c : Blk} {i j : Nat} {w : World} (h : rnB φ b = some c) (he : E' j = E i) (hb : blkAt E i b w) : blkAt E' j c w := by
  unfold rnB at h
  split at h
  · rename_i l hl
    cases h
    obtain ⟨r, h1, h2, h3⟩ := hb
    refine ⟨r, ?_, h2, fun hz => ?_⟩
    · show w.heap[(E' j).1]? = some (.cells ((E' j).pre ++ l.map (At.den E') ++ r ++ (E' j).suf).toArray ((E' j).ty.getD b.ty) b.fr)
      rw [he, ← rnL_den hφ hl]; exact h1
    · show l.length + r.length = (E' j).2 * b.es
      rw [he, rnL_len hl]; exact h3 hz
  · cases h
end
theorem rnBs_get {φ : Nat → Option Nat} : ∀ {l r : List Blk}, rnBs φ l = some r → r.length = l.length ∧ ∀ (i : Nat) (c : Blk), r[i]? = some c → ∃ b, l[i]? = some b ∧ rnB φ b = some c
  | [], r, h => by
    simp only [rnBs] at h; cases h
    exact ⟨rfl, fun i c hc => by simp at hc⟩
  | b :: l, r, h => by
    simp only [rnBs] at h
    split at h
    · rename_i c r' hb hr
      cases h
      obtain ⟨h1, h2⟩ := rnBs_get hr
      refine ⟨by simp [h1], fun i d hd => ?_⟩
      cases i with
      | zero => simp only [List.getElem?_cons_zero, Option.some.injEq] at hd ⊢; subst hd; exact ⟨b, rfl, hb⟩
      | succ i => simp only [List.getElem?_cons_succ] at hd ⊢; exact h2 i d hd
    · cases h
theorem liveAll_get {g : Nat → Option Blk} : ∀ {l : List Nat} {r : List Blk}, liveAll g l = some r → r.length = l.length ∧ ∀ (i : Nat) (j : Nat), l[i]? = some j → ∃ b, r[i]? = some b ∧ g j = some b
  | [], r, h => by
    simp only [liveAll] at h; cases h
    exact ⟨rfl, fun i c hc => by simp at hc⟩
  | a :: l, r, h => by
    simp only [liveAll] at h
    split at h
    · rename_i k r' hk hr
      cases h
      obtain ⟨h1, h2⟩ := liveAll_get hr
      refine ⟨by simp [h1], fun i j hj => ?_⟩
      cases i with
      | zero => simp only [List.getElem?_cons_zero, Option.some.injEq] at hj ⊢; subst hj; exact ⟨k, rfl, hk⟩
      | succ i => simp only [List.getElem?_cons_succ] at hj ⊢; exact h2 i j hj
    · cases h
theorem getM_zipM {g : Nat → Option Blk} : ∀ {l : List Nat} {ks : List Blk}, liveAll g l = some ks → ∀ i, getM (zipM l ks) i = if i ∈ l then g i else none
  | [], ks, h, i => by simp only [liveAll] at h; cases h; simp [zipM, getM]
  | a :: l, ks, h, i => by
    simp only [liveAll] at h
    split at h
    · rename_i k r hk hr
      cases h
      simp only [zipM]
      rw [getM_cons, getM_zipM hr]
      by_cases hi : i = a
      · subst hi; simp [hk]
      · simp [hi]
    · cases h
theorem uniq_zipM {g : Nat → Option Blk} : ∀ {l : List Nat} {ks : List Blk}, liveAll g l = some ks → l.Nodup → uniq (zipM l ks)
  | [], ks, h, _ => by simp only [liveAll] at h; cases h; trivial
  | a :: l, ks, h, hn => by
    simp only [liveAll] at h
    split at h
    · rename_i k r hk hr
      cases h
      rw [List.nodup_cons] at hn
      refine ⟨?_, uniq_zipM hr hn.2⟩
      rw [getM_zipM hr, if_neg hn.1]
    · cases h
theorem keysGe_ge (nb : Nat) : ∀ (m : Mem), ∀ j ∈ keysGe nb m, nb ≤ j
  | [], j, hj => by cases hj
  | (a, b) :: m, j, hj => by
    simp only [keysGe] at hj
    split at hj
    · rename_i ha
      rcases List.mem_cons.1 hj with rfl | hj
      · exact Nat.le_of_ble_eq_true ha
      · exact keysGe_ge nb m j hj
    · exact keysGe_ge nb m j hj
theorem wrsG_spec {φ : Nat → Option Nat} {m : Mem} : ∀ {l : List Nat} {ws : List (Nat × Option Blk)}, wrsG φ m l = some ws → ws.map (·.1) = l ∧ ∀ x ∈ ws, (x.2 = none) ∨ ∃ b c, getM m x.1 = some b ∧ rnB φ b = some c ∧ x.2 = some c
  | [], ws, h => by simp only [wrsG] at h; cases h; exact ⟨rfl, fun x hx => by cases hx⟩
  | i :: l, ws, h => by
    simp only [wrsG] at h
    split at h
    · rename_i r hr
      obtain ⟨h1, h2⟩ := wrsG_spec hr
      split at h
      · cases h
        refine ⟨by simp [h1], fun x hx => ?_⟩
        rcases List.mem_cons.1 hx with rfl | hx
        · exact .inl rfl
        · exact h2 x hx
      · rename_i b hb
        split at h
        · rename_i c hc
          cases h
          refine ⟨by simp [h1], fun x hx => ?_⟩
          rcases List.mem_cons.1 hx with rfl | hx
          · exact .inr ⟨b, c, hb, hc, rfl⟩
          · exact h2 x hx
        · cases h
    · cases h
theorem wrG_in {g : Nat → Option Blk} : ∀ (l : List (Nat × Option Blk)), (l.map (·.1)).Nodup → ∀ x ∈ l, wrG g l x.1 = x.2
  | [], _, x, hx => by cases hx
  | (i, s) :: l, hn, x, hx => by
    simp only [List.map_cons, List.nodup_cons] at hn
    simp only [wrG]
    rcases List.mem_cons.1 hx with rfl | hx
    · rw [wrG_none]
      · simp
      · intro y hy e
        exact hn.1 (by have h := List.mem_map_of_mem (f := fun x : Nat × Option Blk => x.1) hy; rw [e] at h; exact h)
    · exact wrG_in l hn.2 x hx
theorem nwG_at {g : Nat → Option Blk} : ∀ (l : List Blk) (nb k : Nat), nb ≤ k → k < nb + l.length → nwG g nb l k = l[k - nb]?
  | [], nb, k, h1, h2 => by simp at h2; omega
  | b :: l, nb, k, h1, h2 => by
    simp only [nwG]
    by_cases hk : k = nb
    · subst hk
      rw [nwG_none l (k + 1) k (by omega)]
      simp
    · rw [nwG_at l (nb + 1) k (by omega) (by simp at h2; omega), show k - nb = (k - (nb + 1)) + 1 by omega, List.getElem?_cons_succ]
section
variable {P : Program} {S : FuncId → Option SumK} {z : Md}
theorem autoAD_ok (hs : Sound P S) {n : Nat} {f : FuncId} {dec : List (Option Bool)} (ho : Own P f) : GenOK P f (autoAD P S z n f dec) := by
  intro args seen ks g nb p d E w hl hd hnd hc hrel hg hargs hn
  unfold autoAD at hd
  split at hd
  · rename_i c1 c2 c3 c4
    have k1 := nodupB_iff.1 c1
    have k2 := allLt_iff c2
    have k3 := okArgs_iff c3
    have k4 := okBs_iff.1 c4
    split at hd
    · rename_i v m' cs lg hrun
      unfold outG at hd
      split at hd
      · rename_i bs hkd hbs
        split at hd
        · rename_i v' ws bs' hv' hws hbs'
          cases hd
          have kn := nodupB_iff.1 hkd
          obtain ⟨⟨s', h1, h2, h4⟩, hkept⟩ := runG_spec hrun
          have hsub : ∀ i c, getM (zipM seen ks) i = some c → i ∈ seen ∧ g i = some c := by
            intro i c hc
            rw [getM_zipM hl] at hc
            split at hc
            · rename_i hi; exact ⟨hi, hc⟩
            · cases hc
          have hbel : ∀ i, memB seen i = true → below nb i = true := fun i hi => by
            simp only [below, decide_eq_true_eq]; exact k2 i (memB_iff.1 hi)
          have hcell : ∀ i c, getM (zipM seen ks) i = some c → i < nb ∧ okL (below nb) c.cells = true := by
            intro i c hc
            obtain ⟨hi, hgi⟩ := hsub i c hc
            refine ⟨k2 i hi, okL_mono hbel ?_⟩
            obtain ⟨_, h6⟩ := liveAll_get hl
            obtain ⟨t, ht, hti⟩ := List.getElem_of_mem hi
            obtain ⟨b, hb, hgb⟩ := h6 t i (by rw [List.getElem?_eq_getElem ht, hti])
            rw [hgi] at hgb
            cases hgb
            exact k4 c (List.mem_of_getElem? hb)
          obtain ⟨v0, b1, b2, b3, b4, b5, b6, b7, b8⟩ := (exec_sound (binOK P) hs.sums hs.mix hs.ng n).2.2.2 f args _ _ s' h1 hcell (uniq_zipM hl k1) (fun u hu => LV.ok_mono hbel (k3 u hu))
          cases b1
          have hmr : MRel E ⟨.nil, 0, zipM seen ks, nb, dec, [], []⟩ w := ⟨hrel.sub fun i b hb => (hsub i b hb).2, hcell, uniq_zipM hl k1⟩
          have hcall := b8 (by rw [Good, h4]; exact hc) E w hmr
          obtain ⟨fn, f1, f2, f3⟩ := ho
          refine .inl ⟨fn, f1, f2, f3, hcall.mono ?_⟩
          rintro e w' ⟨Eo, rfl, hmr', hx⟩
          have hrel' := hmr'.rel
          rw [h2] at hrel'
          have hsrc := hx.src
          rw [h2] at hsrc
          have hagr : ∀ i, i < nb → Eo i = E i := hx.agree
          have hge := keysGe_ge nb m'
          obtain ⟨l1, l2⟩ := liveAll_get hbs
          obtain ⟨q1, q2⟩ := rnBs_get hbs'
          obtain ⟨y1, y2⟩ := wrsG_spec hws
          generalize hK : keysGe nb m' = keys at *
          have hlen : bs'.length = keys.length := by rw [q1, l1]
          generalize hE' : (fun i => if i < nb then E i else match keys[i - nb]? with
            | some j => Eo j
            | none => E i) = E'
          have Elt : ∀ i, i < nb → E' i = E i := fun i hi => by rw [← hE']; simp [hi]
          have Ege : ∀ i j, nb ≤ i → keys[i - nb]? = some j → E' i = Eo j := fun i j hi hj => by
            rw [← hE']; simp only [show ¬ i < nb by omega, if_false, hj]
          have Eout : ∀ i, nb + bs'.length ≤ i → E' i = E i := fun i hi => by
            rw [← hE']
            simp only [show ¬ i < nb by omega, if_false]
            rw [List.getElem?_eq_none (by omega)]
          have hφ : ∀ i c, nmG seen keys nb i = some c → E' c = Eo i := by
            intro i c hic
            unfold nmG at hic
            split at hic
            · rename_i hi
              cases hic
              have hlt := k2 _ (memB_iff.1 hi)
              rw [Elt _ hlt, hagr _ hlt]
            · obtain ⟨p1, p2, p3⟩ := posN_spec hic
              exact Ege c i p1 p3
          have hsome : ∀ i ∈ seen, ∃ c, g i = some c := fun i hi => Option.isSome_iff_exists.1 (liveAll_some hl i hi)
          have hgnew : ∀ i c, g i = some c → i < nb ∨ nb + bs'.length ≤ i := by
            intro i c hi
            by_cases h5 : i < nb
            · exact .inl h5
            · by_cases h6 : nb + bs'.length ≤ i
              · exact .inr h6
              · exfalso
                have := (hg i c hi).1
                rw [hn i (by omega) (by show i < nb + bs'.length; omega)] at this
                cases this
          have Eold : ∀ i c, g i = some c → E' i = E i := fun i c hi => (hgnew i c hi).elim (Elt i) (Eout i)
          have hlt : ∀ i c, g i = some c → (E i).1 < w.heap.size := fun i c hi => by
            obtain ⟨r, u1, -⟩ := hrel.blk i c hi
            exact (Array.getElem?_eq_some_iff.1 u1).1
          have hpE : ∀ i, p i = true → E' i = E i := by
            intro i hi
            by_cases h5 : i < nb
            · exact Elt i h5
            · refine Eout i ?_
              by_cases h6 : nb + bs'.length ≤ i
              · exact h6
              · exfalso
                rw [hn i (by omega) (by show i < nb + bs'.length; omega)] at hi
                cases hi
          have hwk : (ws.map (·.1)).Nodup := by rw [y1]; exact keepIn_nodup k1
          -- what lies at a number behind the call
          have hat : ∀ i b, nwG (wrG g ws) nb bs' i = some b →
              (∃ j b0, nb ≤ i ∧ i < nb + bs'.length ∧ keys[i - nb]? = some j ∧ getM m' j = some b0 ∧ rnB (nmG seen keys nb) b0 = some b) ∨
              (i ∈ seen ∧ ∃ b0, getM m' i = some b0 ∧ (rnB (nmG seen keys nb) b0 = some b ∨ (b0 = b ∧ g i = some b))) ∨ (i ∉ seen ∧ g i = some b) := by
            intro i b hb
            by_cases hi : nb ≤ i ∧ i < nb + bs'.length
            · left
              rw [nwG_at _ _ _ hi.1 hi.2] at hb
              obtain ⟨b0, hb0, hr0⟩ := q2 _ _ hb
              have hkl : i - nb < keys.length := by omega
              obtain ⟨b1, hb1, hg1⟩ := l2 (i - nb) keys[i - nb] (List.getElem?_eq_getElem hkl)
              rw [hb0] at hb1
              cases hb1
              exact ⟨keys[i - nb], b0, hi.1, hi.2, List.getElem?_eq_getElem hkl, hg1, hr0⟩
            · right
              rw [nwG_none _ _ _ (by omega)] at hb
              by_cases hs2 : i ∈ seen
              · left
                refine ⟨hs2, ?_⟩
                by_cases hlgi : i ∈ lg
                · have hs3 := keepIn_mem.2 ⟨hs2, hlgi⟩
                  rw [← y1] at hs3
                  obtain ⟨x, hx1, hx2⟩ := List.mem_map.1 hs3
                  rw [← hx2, wrG_in ws hwk x hx1] at hb
                  rcases y2 x hx1 with hz | ⟨b0, c, z1, z2, z3⟩
                  · rw [hz] at hb; cases hb
                  · rw [z3] at hb
                    cases hb
                    exact ⟨b0, by rw [← hx2]; exact z1, .inl z2⟩
                · have hgi : g i = some b := by
                    rw [wrG_none] at hb
                    · exact hb
                    · intro x hx1 e
                      have : i ∈ keepIn lg seen := by rw [← y1, ← e]; exact List.mem_map_of_mem hx1
                      exact hlgi (keepIn_mem.1 this).2
                  refine ⟨b, ?_, .inr ⟨rfl, hgi⟩⟩
                  rw [hkept i (k2 i hs2) hlgi, getM_zipM hl, if_pos hs2]
                  exact hgi
              · right
                refine ⟨hs2, ?_⟩
                rw [wrG_none] at hb
                · exact hb
                · intro x hx1 e
                  have : i ∈ keepIn lg seen := by rw [← y1, ← e]; exact List.mem_map_of_mem hx1
                  exact hs2 (keepIn_mem.1 this).1
          have hframe : ∀ b, b < w.heap.size → (∀ i ∈ seen, (E i).1 ≠ b) → w'.heap[b]? = w.heap[b]? := fun b hb hne => hx.frame b hb fun i hi he => by
            obtain ⟨c, hc⟩ := Option.isSome_iff_exists.1 hi
            exact hne i (hsub i c hc).1 he
          have hnew : ∀ j b0, getM m' j = some b0 → w.heap.size ≤ (Eo j).1 ∨ ∃ i ∈ seen, (Eo j).1 = (E i).1 := by
            intro j b0 hj
            rcases hsrc j (by rw [hj]; rfl) with h | ⟨i, hi, he⟩
            · exact .inl h
            · obtain ⟨c, hc⟩ := Option.isSome_iff_exists.1 hi
              exact .inr ⟨i, (hsub i c hc).1, he⟩
          -- the number in the callee's memory
          have hcal : ∀ i b, nwG (wrG g ws) nb bs' i = some b → (∃ j b0, getM m' j = some b0 ∧ E' i = Eo j ∧ (nb ≤ i ∧ i < nb + bs'.length ∧ keys[i - nb]? = some j ∨ i ∈ seen ∧ j = i)) ∨ (i ∉ seen ∧ g i = some b) := by
            intro i b hb
            rcases hat i b hb with ⟨j, b0, a1, a2, a3, a4, a5⟩ | ⟨a1, b0, a2, a3⟩ | ⟨a1, a2⟩
            · exact .inl ⟨j, b0, a4, Ege i j a1 a3, .inl ⟨a1, a2, a3⟩⟩
            · exact .inl ⟨i, b0, a2, by rw [Elt i (k2 i a1), hagr i (k2 i a1)], .inr ⟨a1, rfl⟩⟩
            · exact .inr ⟨a1, a2⟩
          refine ⟨_, rfl, E', rnLV_den hφ hv', ?_⟩
          refine ⟨fun i hi => ?_, ⟨fun i b hb => ?_, fun i i2 hi hi2 he => ?_⟩, hx.os, hx.tape, hx.output, hx.size, fun b hb hne => hframe b hb fun i hi he => ?_, fun i h5 h6 => ?_⟩
          · rcases hi with hi | hi
            · exact Elt i hi
            · exact Eout i hi
          · rcases hat i b hb with ⟨j, b0, a1, a2, a3, a4, a5⟩ | ⟨a1, b0, a2, a3⟩ | ⟨a1, a2⟩
            · exact rnB_at hφ a5 (Ege i j a1 a3) (hrel'.blk j b0 a4)
            · rcases a3 with a3 | ⟨rfl, a3⟩
              · exact rnB_at hφ a3 (by rw [Elt i (k2 i a1), hagr i (k2 i a1)]) (hrel'.blk i b0 a2)
              · have hce := (hcell i b0 (by rw [getM_zipM hl, if_pos a1]; exact a3)).2
                obtain ⟨r, u1, u2, u3⟩ := hrel'.blk i b0 a2
                have e1 : E' i = Eo i := by rw [Elt i (k2 i a1), hagr i (k2 i a1)]
                refine ⟨r, ?_, u2, fun hz => by rw [e1]; exact u3 hz⟩
                rw [e1, u1, denL_congr (E := Eo) (E' := E') (p := below nb) (fun j hj => ?_) hce]
                have hj' : j < nb := by simpa [below] using hj
                rw [Elt j hj', hagr j hj']
            · obtain ⟨r, u1, u2, u3⟩ := hrel.blk i b a2
              refine ⟨r, ?_, u2, fun hz => by rw [Eold i b a2]; exact u3 hz⟩
              rw [Eold i b a2, hframe _ (hlt i b a2) (fun j hj e => ?_), u1, denL_congr (p := p) hpE (hg i b a2).2]
              obtain ⟨c, hc2⟩ := hsome j hj
              have := hrel.inj j i (by rw [hc2]; rfl) (by rw [a2]; rfl) e
              exact a1 (this ▸ hj)
          · obtain ⟨b, hb⟩ := Option.isSome_iff_exists.1 hi
            obtain ⟨b2', hb2⟩ := Option.isSome_iff_exists.1 hi2
            -- a callee's number and an old one apart
            have apart : ∀ (j : Nat) (b0 : Blk) (t : Nat) (c : Blk), getM m' j = some b0 → t ∉ seen → g t = some c → (Eo j).1 ≠ (E t).1 := by
              intro j b0 t c hj ht hgt e
              rcases hnew j b0 hj with h | ⟨i0, hi0, e0⟩
              · have := hlt t c hgt; omega
              · obtain ⟨c0, hc0⟩ := hsome i0 hi0
                have := hrel.inj i0 t (by rw [hc0]; rfl) (by rw [hgt]; rfl) (by rw [← e0, e])
                exact ht (this ▸ hi0)
            rcases hcal i b hb with ⟨j, b0, a1, a2, a3⟩ | ⟨a1, a2⟩
            · rcases hcal i2 b2' hb2 with ⟨j2, b3, d1, d2, d3⟩ | ⟨d1, d2⟩
              · rw [a2, d2] at he
                have hjj := hrel'.inj j j2 (by rw [a1]; rfl) (by rw [d1]; rfl) he
                subst hjj
                rcases a3 with ⟨e1, e2, e3⟩ | ⟨e1, e2⟩
                · rcases d3 with ⟨g1, g2, g3⟩ | ⟨g1, g2⟩
                  · have h7 : i - nb < keys.length := by omega
                    have h8 : i2 - nb < keys.length := by omega
                    have e4 : keys[i - nb] = j := by rw [List.getElem?_eq_getElem h7] at e3; exact Option.some.inj e3
                    have g4 : keys[i2 - nb] = j := by rw [List.getElem?_eq_getElem h8] at g3; exact Option.some.inj g3
                    have := (List.getElem_inj (h₀ := h7) (h₁ := h8) kn).1 (by rw [e4, g4])
                    omega
                  · exfalso
                    have h7 := hge j (List.mem_of_getElem? e3)
                    have h8 := k2 i2 g1
                    omega
                · rcases d3 with ⟨g1, g2, g3⟩ | ⟨g1, g2⟩
                  · exfalso
                    have h7 := hge j (List.mem_of_getElem? g3)
                    have h8 := k2 i e1
                    omega
                  · omega
              · exfalso
                rw [a2, Eold i2 b2' d2] at he
                exact apart j b0 i2 b2' a1 d1 d2 he
            · rcases hcal i2 b2' hb2 with ⟨j2, b3, d1, d2, d3⟩ | ⟨d1, d2⟩
              · exfalso
                rw [d2, Eold i b a2] at he
                exact apart j2 b3 i b d1 a1 a2 he.symm
              · rw [Eold i b a2, Eold i2 b2' d2] at he
                exact hrel.inj i i2 (by rw [a2]; rfl) (by rw [d2]; rfl) he
          · obtain ⟨c, hc2⟩ := hsome i hi
            exact hne i (by rw [hc2]; rfl) he
          · have h6' : i < nb + bs'.length := h6
            have hkl : i - nb < keys.length := by omega
            have hk := List.getElem?_eq_getElem hkl
            obtain ⟨b1, hb1, hg1⟩ := l2 (i - nb) _ hk
            rw [Ege i _ h5 hk]
            rcases hnew _ b1 hg1 with h | ⟨i0, hi0, e0⟩
            · exact .inl h
            · obtain ⟨c, hc2⟩ := hsome i0 hi0
              exact .inr ⟨i0, by rw [hc2]; rfl, e0⟩
        · cases hd
      · cases hd
    · cases hd
  · cases hd
theorem autoA_ok (hs : Sound P S) {n : Nat} {f : FuncId} (ho : Own P f) : GenOK P f (autoA P S z n f) := autoAD_ok hs ho
end
def moreG (S : FuncId → Option SumK) (f : FuncId) (s : List LV → List Nat → List Blk → Nat → Option Dl) : FuncId → Option SumK := fun g =>
  match Nat.beq g f with
  | true => some (.gen s)
  | false => S g
section
variable {P : Program} {S : FuncId → Option SumK}
theorem Sound.moreG (h : Sound P S) {f : FuncId} {s : List LV → List Nat → List Blk → Nat → Option Dl} (hs : GenOK P f s) : Sound P (Go.Lr.moreG S f s) := by
  refine ⟨fun g t hg => ?_, h.mix, h.ng⟩
  unfold Go.Lr.moreG at hg
  split at hg
  · rename_i he
    cases hg
    rw [nbeq] at he
    have : g = f := by simpa using he
    subst this
    exact hs
  · exact h.sums g t hg
end
end Go.Lr

/- The local evaluator: summaries of methods on a flag, where the flag lies anywhere in a block. -/
namespace Go.Lr
open Go.RowKit
set_option linter.unusedVariables false
def liftF (ty : TypeId) (s : Sum) : Sum := fun args =>
  match args with
  | .v (.one (.ptr c o)) :: rest => match okArgs (fun i => !(Nat.beq i c)) rest, s (.v (.one (.ptr c 0)) :: rest) with
    | true, some t => match t.wr with
      | [c'] => match Nat.beq c' c, memB t.rd c with
        | true, false => some ⟨t.rd, [c], fun rdB wB nb => match wB with
          | [⟨tt, (0, 0), eb, l⟩] => match atL l o, okBs noP rdB with
            | some (.bool h), true => match t.go rdB [flag ty h] nb with
              | some ⟨v, [⟨t', (0, 0), 0, [.bool h']⟩], [], cs⟩ => match Nat.beq t' ty, v.ok noP with
                | true, true => some ⟨v, [⟨tt, (0, 0), eb, l.set o (.bool h')⟩], [], cs⟩
                | _, _ => none
              | _ => none
            | _, _ => none
          | _ => none⟩
        | _, _ => none
      | _ => none
    | _, _ => none
  | _ => none
section
variable {P : Program}
theorem liveAll_congr {g g' : Nat → Option Blk} : ∀ {l : List Nat} {r : List Blk}, liveAll g l = some r → (∀ (i : Nat) (b : Blk), i ∈ l → b ∈ r → g i = some b → g' i = some b) → liveAll g' l = some r
  | [], r, h, _ => h
  | a :: l, r, h, hg => by
    obtain ⟨k, r', h1, h2, rfl⟩ := liveAll_cons h
    have e1 := hg a k (List.mem_cons_self ..) (List.mem_cons_self ..) h1
    have e2 := liveAll_congr h2 fun i b hi hb => hg i b (List.mem_cons_of_mem _ hi) (List.mem_cons_of_mem _ hb)
    simp only [liveAll, e1, e2]
open Classical in
noncomputable def gW (g : Nat → Option Blk) (c : Nat) (k : Blk) : Nat → Option Blk := fun i => if i = c then some k else match g i with
  | some b => if okL noP b.cells = true then some b else none
  | none => none
def eW (E : Env) (c : Nat) (L : Loc) : Env := fun i => if i = c then L else E i
theorem gW_get {g : Nat → Option Blk} {c i : Nat} {k b : Blk} (h : gW g c k i = some b) (hi : i ≠ c) : g i = some b ∧ okL noP b.cells = true := by
  unfold gW at h
  rw [if_neg hi] at h
  split at h
  · rename_i b' hb
    split at h
    · rename_i ho; cases h; exact ⟨hb, ho⟩
    · cases h
  · cases h
theorem gW_of {g : Nat → Option Blk} {c i : Nat} {k b : Blk} (h : g i = some b) (ho : okL noP b.cells = true) (hi : i ≠ c) : gW g c k i = some b := by
  unfold gW
  rw [if_neg hi, h]
  simp only [ho, if_true]
theorem gW_c {g : Nat → Option Blk} {c : Nat} {k : Blk} : gW g c k c = some k := by unfold gW; rw [if_pos rfl]
theorem gW_some {g : Nat → Option Blk} {c i : Nat} {k kc : Blk} (hc : g c = some kc) (h : (gW g c k i).isSome) : (g i).isSome := by
  by_cases hi : i = c
  · rw [hi, hc]; rfl
  · obtain ⟨b, hb⟩ := Option.isSome_iff_exists.1 h
    rw [(gW_get hb hi).1]; rfl
theorem eW_blk {E : Env} {c i : Nat} {t : TypeId} {l : List At} {r : List Value} {o : Nat} : (eW E c (cellLoc (E c) E t l r o) i).1 = (E i).1 := by
  unfold eW
  by_cases hi : i = c
  · rw [if_pos hi, hi]; rfl
  · rw [if_neg hi]
theorem liftF_ok {f : FuncId} {ty : TypeId} {s : Sum} (hS : SumOK P f s) : SumOK P f (liftF ty s) := by
  intro args t g nb p rdB wrB ans ws E w hs hr hw hnd hgo hz hc hrel hg hargs hn
  unfold liftF at hs
  split at hs
  · rename_i c o rest
    split at hs
    · rename_i t0 hrest ht0
      split at hs
      · rename_i c' hwr
        split at hs
        · rename_i hcc hmem
          cases hs
          rw [nbeq] at hcc
          have hcc' : c' = c := of_decide_eq_true hcc
          subst hcc'
          simp only at hgo hw hr hz
          split at hgo
          · rename_i tt eb l
            split at hgo
            · rename_i h hat hokr
              split at hgo
              · rename_i v t' h' cs hgo0
                split at hgo
                · rename_i hty hv
                  cases hgo
                  rw [nbeq] at hty
                  have hty' : t' = ty := of_decide_eq_true hty
                  subst hty'
                  obtain ⟨kc, r', hkc, hr', hrr⟩ := liveAll_cons hw
                  cases liveAll_nil hr'
                  cases hrr
                  simp only [zipW] at hz
                  cases hz
                  obtain ⟨r, g1, g2, g3⟩ := hrel.blk c' _ hkc
                  have hlt : o < l.length := atL_lt hat
                  generalize hL : cellLoc (E c') E tt l r o = L
                  have hLb : L.blk = (E c').blk := by rw [← hL]; rfl
                  have hEb : ∀ i, (eW E c' L i).1 = (E i).1 := fun i => by rw [← hL]; exact eW_blk
                  have hEi : ∀ i, i ≠ c' → eW E c' L i = E i := fun i hi => by unfold eW; rw [if_neg hi]
                  have hEc : eW E c' L c' = L := by unfold eW; rw [if_pos rfl]
                  have hok : ∀ i b, gW g c' (flag t' h) i = some b → i ≠ c' → g i = some b ∧ okL noP b.cells = true := fun i b hb hi => gW_get hb hi
                  have hrelW : Rel (eW E c' L) (gW g c' (flag t' h)) w := by
                    refine ⟨fun i b hb => ?_, fun i j hi hj he => hrel.inj i j (gW_some hkc hi) (gW_some hkc hj) (by rw [← hEb i, ← hEb j]; exact he)⟩
                    by_cases hi : i = c'
                    · subst hi
                      rw [gW_c] at hb
                      cases hb
                      refine ⟨[], ?_, fun _ => rfl, fun hne => absurd rfl hne⟩
                      rw [hEc]
                      have e := cellLoc_eq (L := E i) (E := E) (t := tt) (l := l) (r := r) (o := o) t' (h := h) hlt
                      rw [set_same hat, hL] at e
                      show w.heap[L.blk]? = some (flagW L t' h)
                      rw [e, hLb]; exact g1
                    · obtain ⟨q1, q2⟩ := hok i b hb hi
                      exact blkAt_ren q2 (hEi i hi) (hrel.blk i b q1)
                  have hdenr : ∀ u ∈ rest, u.den E = u.den (eW E c' L) := fun u hu => (LV.den_congr (p := fun i => !(Nat.beq i c')) (fun i hi => hEi i (by
                    intro e
                    rw [e] at hi
                    simp at hi)) (okArgs_iff hrest u hu)).symm
                  have hargs' : ((LV.v (V1.one (At.ptr c' o))) :: rest).map (LV.den E) = ((LV.v (V1.one (At.ptr c' 0))) :: rest).map (LV.den (eW E c' L)) := by
                    rw [List.map_cons, List.map_cons, List.map_congr_left hdenr]
                    congr 1
                    show Value.pointer (some ⟨(E c').1, o + (E c').pre.length, none⟩) = Value.pointer (some ⟨(eW E c' L c').1, 0 + (eW E c' L c').pre.length, none⟩)
                    have e : (eW E c' L c').pre.length = o + (E c').pre.length := by
                      rw [hEc, ← hL]; unfold cellLoc; simp; omega
                    rw [e, hEb, Nat.zero_add]
                  have hrd : liveAll (gW g c' (flag t' h)) t0.rd = some rdB := liveAll_congr hr fun i b hi hb hgi => by
                    refine gW_of hgi (okBs_iff.1 hokr b hb) fun e => ?_
                    subst e
                    exact memB_false hmem hi
                  have hwW : liveAll (gW g c' (flag t' h)) t0.wr = some [flag t' h] := by
                    rw [hwr]; simp only [liveAll, gW_c]
                  have main := hS _ t0 (gW g c' (flag t' h)) nb p rdB [flag t' h] ⟨v, [⟨t', (0, 0), 0, [.bool h']⟩], [], cs⟩ [(c', some (flag t' h'))] (eW E c' L) w ht0 hrd hwW (by rw [hwr]; exact hnd) hgo0 (by rw [hwr]; rfl) hc hrelW
                    (fun i b hb => by
                      by_cases hi : i = c'
                      · subst hi; rw [gW_c] at hb; cases hb; exact ⟨(hg i _ hkc).1, rfl⟩
                      · exact hg i b (hok i b hb hi).1)
                    (fun u hu => by
                      rcases List.mem_cons.1 hu with rfl | hu
                      · exact (hg c' _ hkc).1
                      · exact hargs u (List.mem_cons_of_mem _ hu)) hn
                  have conv : ∀ (E' : Env) (w' : World), Post w (eW E c' L) (gW g c' (flag t' h)) nb ⟨v, [(c', some (flag t' h'))], [], [], []⟩ E' w' → Post w E g nb ⟨v, [(c', some ⟨tt, (0, 0), eb, l.set o (.bool h')⟩)], [], [], []⟩ E w' := by
                    intro E' w' hp
                    have hEE : ∀ i, E' i = eW E c' L i := fun i => hp.agree i (by simp; omega)
                    have hEf : E' = eW E c' L := funext hEE
                    subst hEf
                    have hfr : ∀ i b, i ≠ c' → g i = some b → gW g c' (flag t' h) i = none → w'.heap[(E i).1]? = w.heap[(E i).1]? := fun i b hi hb hno => by
                      obtain ⟨r2, u1, -, -⟩ := hrel.blk i b hb
                      refine hp.frame _ (Array.getElem?_eq_some_iff.1 u1).1 fun j hj he => ?_
                      rw [hEb] at he
                      have := hrel.inj j i (gW_some hkc hj) (by rw [hb]; rfl) he
                      subst this
                      rw [hno] at hj
                      cases hj
                    refine ⟨fun _ _ => rfl, ⟨fun i b hb => ?_, fun i j hi hj he => ?_⟩, hp.os, hp.tape, hp.output, hp.size, fun k hk hne => hp.frame k hk fun i hi => by rw [hEb]; exact hne i (gW_some hkc hi), fun i i1 i2 => by simp at i2; omega⟩
                    · simp only [nwG, wrG] at hb
                      by_cases hi : i = c'
                      · subst hi
                        rw [if_pos rfl] at hb
                        cases hb
                        have hb2 := hp.rel.blk i (flag t' h') (by simp only [nwG, wrG, if_true])
                        obtain ⟨r2, u1, u2, -⟩ := hb2
                        rw [hEc, u2 rfl] at u1
                        refine ⟨r, ?_, g2, fun hne => by show (l.set o _).length + _ = _; rw [List.length_set]; exact g3 hne⟩
                        have e := cellLoc_eq (L := E i) (E := E) (t := tt) (l := l) (r := r) (o := o) t' (h := h') hlt
                        rw [hL] at e
                        rw [← hLb]
                        exact u1.trans (congrArg some e)
                      · rw [if_neg hi] at hb
                        by_cases ho : okL noP b.cells = true
                        · have := hp.rel.blk i b (by simp only [nwG, wrG, if_neg hi]; exact gW_of hb ho hi)
                          exact blkAt_ren ho (hEi i hi).symm this
                        · obtain ⟨r2, u1, u2, u3⟩ := hrel.blk i b hb
                          refine ⟨r2, ?_, u2, u3⟩
                          rw [hfr i b hi hb]
                          · exact u1
                          · unfold gW
                            rw [if_neg hi, hb]
                            show (if okL noP b.cells = true then some b else none) = none
                            rw [if_neg ho]
                    · simp only [nwG, wrG] at hi hj
                      refine hrel.inj i j ?_ ?_ he
                      · by_cases h1 : i = c'
                        · rw [h1, hkc]; rfl
                        · simpa [if_neg h1] using hi
                      · by_cases h1 : j = c'
                        · rw [h1, hkc]; rfl
                        · simpa [if_neg h1] using hj
                  rw [hargs']
                  refine main.imp (fun ⟨fn, h1, h2, h3, h4⟩ => ⟨fn, h1, h2, h3, h4.mono ?_⟩) (fun ⟨u, w', h1, E', h2, h3⟩ => ⟨u, w', h1, E, ?_, conv E' w' h3⟩)
                  · rintro e w' ⟨u, rfl, E', rfl, h3⟩
                    exact ⟨_, rfl, E, by rw [den_noP hv, den_noP (E := E) hv], conv E' w' h3⟩
                  · rw [h2, den_noP hv, den_noP (E := E) hv]
                · cases hgo
              · cases hgo
            · cases hgo
          · cases hgo
        · cases hs
      · cases hs
    · cases hs
  · cases hs
end
end Go.Lr

/- The local evaluator: summaries of methods on a flag that lies in a block of any type. -/
set_option linter.unusedVariables false
set_option linter.unusedSimpArgs false
namespace Go.Lr
open Go.RowKit
section
variable {P : Program} {S : FuncId → Option SumK}
end
end Go.Lr

/- Numbers of 64 bits: what the machine's operations come to. Plain. -/
namespace Go.Lr
theorem u64_in {x : Int} (h0 : 0 ≤ x) (h1 : x < 18446744073709551616) : u64 x = x := by unfold u64; omega
theorem w64_in {x : Int} (h0 : -9223372036854775808 ≤ x) (h1 : x < 9223372036854775808) : w64 x = x := by unfold w64; omega
theorem wr_u (x : Int) : wr .u64 x = u64 x := rfl
theorem wr_i (x : Int) : wr .i64 x = w64 x := rfl
theorem pow2_32u : pow2 (min (Int.toNat 32) IntKind.u64.bits) = 4294967296 := by decide
theorem pow2_63i : pow2 (min (Int.toNat 63) IntKind.i64.bits) = 9223372036854775808 := by decide
theorem land32 (x : Int) (h0 : 0 ≤ x) (h1 : x < 18446744073709551616) : Int.ofNat ((u64 x).toNat.land (u64 4294967295).toNat) = x % 4294967296 := by
  have e : (u64 4294967295).toNat = 2 ^ 32 - 1 := by decide
  rw [u64_in h0 h1, e]
  show ((x.toNat &&& (2 ^ 32 - 1) : Nat) : Int) = _
  rw [Nat.and_two_pow_sub_one_eq_mod]
  omega
theorem lnot (x : Int) (h0 : 0 ≤ x) (h1 : x < 18446744073709551616) : Int.ofNat ((u64 (-1)).toNat.xor (u64 x).toNat) = 18446744073709551615 - x := by
  have e : (u64 (-1)).toNat = (BitVec.allOnes 64).toNat := by decide
  rw [u64_in h0 h1, e]
  have hx : x.toNat < 2 ^ 64 := by omega
  have h2 : (BitVec.ofNat 64 x.toNat).toNat = x.toNat := by rw [BitVec.toNat_ofNat]; exact Nat.mod_eq_of_lt hx
  have h3 : (BitVec.allOnes 64).toNat.xor x.toNat = (BitVec.allOnes 64 ^^^ BitVec.ofNat 64 x.toNat).toNat := by rw [BitVec.toNat_xor, h2]; rfl
  have h4 : BitVec.allOnes 64 ^^^ BitVec.ofNat 64 x.toNat = ~~~BitVec.ofNat 64 x.toNat := by rw [BitVec.xor_comm, BitVec.xor_allOnes]
  rw [h3, h4, BitVec.toNat_not, h2]
  show ((2 ^ 64 - 1 - x.toNat : Nat) : Int) = _
  omega
theorem mulHi (x y : Int) (hx0 : 0 ≤ x) (hx1 : x < 18446744073709551616) (hy0 : 0 ≤ y) (hy1 : y < 18446744073709551616) :
    u64 (u64 (u64 (x / 4294967296 * (y / 4294967296)) + u64 (u64 (x / 4294967296 * (y % 4294967296)) + u64 (x % 4294967296 * (y % 4294967296)) / 4294967296) / 4294967296) +
      u64 ((u64 (u64 (x / 4294967296 * (y % 4294967296)) + u64 (x % 4294967296 * (y % 4294967296)) / 4294967296)) % 4294967296 + u64 (x % 4294967296 * (y / 4294967296))) / 4294967296) = x * y / 18446744073709551616 := by
  have hb : ∀ a b : Int, 0 ≤ a → a ≤ 4294967295 → 0 ≤ b → b ≤ 4294967295 → 0 ≤ a * b ∧ a * b ≤ 18446744065119617025 := by
    intro a b h1 h2 h3 h4
    refine ⟨Int.mul_nonneg h1 h3, ?_⟩
    calc a * b ≤ 4294967295 * b := Int.mul_le_mul_of_nonneg_right h2 h3
      _ ≤ 4294967295 * 4294967295 := Int.mul_le_mul_of_nonneg_left h4 (by omega)
      _ = 18446744065119617025 := by decide
  have hprod : x * y = (x / 4294967296 * (y / 4294967296)) * 18446744073709551616 + ((x / 4294967296 * (y % 4294967296)) + (x % 4294967296 * (y / 4294967296))) * 4294967296 + x % 4294967296 * (y % 4294967296) := by
    have ex : x = x / 4294967296 * 4294967296 + x % 4294967296 := by omega
    have ey : y = y / 4294967296 * 4294967296 + y % 4294967296 := by omega
    generalize x / 4294967296 = x1 at *
    generalize x % 4294967296 = x0 at *
    generalize y / 4294967296 = y1 at *
    generalize y % 4294967296 = y0 at *
    rw [ex, ey]
    clear hb ex ey hx0 hx1 hy0 hy1
    grind
  have b1 := hb (x / 4294967296) (y / 4294967296) (by omega) (by omega) (by omega) (by omega)
  have b2 := hb (x / 4294967296) (y % 4294967296) (by omega) (by omega) (by omega) (by omega)
  have b3 := hb (x % 4294967296) (y / 4294967296) (by omega) (by omega) (by omega) (by omega)
  have b4 := hb (x % 4294967296) (y % 4294967296) (by omega) (by omega) (by omega) (by omega)
  rw [hprod]
  generalize x / 4294967296 * (y / 4294967296) = p11 at *
  generalize x / 4294967296 * (y % 4294967296) = p10 at *
  generalize x % 4294967296 * (y / 4294967296) = p01 at *
  generalize x % 4294967296 * (y % 4294967296) = p00 at *
  clear hprod hb
  rw [u64_in (x := p11) (by omega) (by omega), u64_in (x := p10) (by omega) (by omega), u64_in (x := p00) (by omega) (by omega), u64_in (x := p01) (by omega) (by omega)]
  rw [u64_in (x := p10 + p00 / 4294967296) (by omega) (by omega)]
  rw [u64_in (x := (p10 + p00 / 4294967296) % 4294967296 + p01) (by omega) (by omega)]
  unfold u64
  omega
end Go.Lr

/- Numbers of 128 bits in two halves: what the operations on the halves come to. Plain. -/
namespace Go.Lr
def wHi (v : Int) : Int := v / 18446744073709551616
def wLo (v : Int) : Int := v % 18446744073709551616
def wVal (h l : Int) : Int := h * 18446744073709551616 + l
theorem wVal_mk (v : Int) : wVal (wHi v) (wLo v) = v := by unfold wVal wHi wLo; omega
theorem hi_mk (x y : Int) (h0 : 0 ≤ y) (h1 : y < 18446744073709551616) : wHi (wVal x y) = x := by unfold wHi wVal; omega
theorem lo_mk (x y : Int) (h0 : 0 ≤ y) (h1 : y < 18446744073709551616) : wLo (wVal x y) = y := by unfold wLo wVal; omega
theorem wLo_in (v : Int) : 0 ≤ wLo v ∧ wLo v < 18446744073709551616 := by unfold wLo; omega
theorem wHi_in (v : Int) (h0 : 0 ≤ v) (h1 : v < 340282366920938463463374607431768211456) : 0 ≤ wHi v ∧ wHi v < 18446744073709551616 := by unfold wHi; omega
theorem wHi_inI (v : Int) (h0 : -170141183460469231731687303715884105728 ≤ v) (h1 : v < 170141183460469231731687303715884105728) : -9223372036854775808 ≤ wHi v ∧ wHi v < 9223372036854775808 := by unfold wHi; omega
theorem pow2_pos (n : Nat) : 0 < pow2 n := by
  have : 0 < 2 ^ n := Nat.two_pow_pos n
  unfold pow2; exact Int.ofNat_lt.2 this
theorem pow2_add (m n : Nat) : pow2 (m + n) = pow2 m * pow2 n := by
  unfold pow2; show ((2 ^ (m + n) : Nat) : Int) = ((2 ^ m : Nat) : Int) * ((2 ^ n : Nat) : Int)
  rw [Nat.pow_add]; exact Int.natCast_mul _ _
theorem pow2_succ (n : Nat) : pow2 (n + 1) = 2 * pow2 n := by rw [pow2_add]; show pow2 n * 2 = _; omega
theorem pow2_64 : pow2 64 = 18446744073709551616 := by decide
theorem pow2_mono {m n : Nat} (h : m ≤ n) : pow2 m ≤ pow2 n := by
  unfold pow2; exact Int.ofNat_le.2 (Nat.pow_le_pow_right (by omega) h)
theorem pow2_le {m n : Nat} (k : Int) (h : m ≤ n) (hk : pow2 n = k) : pow2 m ≤ k := hk ▸ pow2_mono h
theorem lor_add (a b : Nat) (s : Nat) (hb : b < 2 ^ s) : (2 ^ s * a).lor b = 2 ^ s * a + b := (Nat.two_pow_add_eq_or_of_lt hb a).symm
theorem ior_add (a b : Int) (s : Nat) (ha : 0 ≤ a) (hb0 : 0 ≤ b) (hb1 : b < pow2 s) (hs : a * pow2 s + b < 18446744073709551616) :
    Int.ofNat ((u64 (a * pow2 s)).toNat.lor (u64 b).toNat) = a * pow2 s + b ∧ Int.ofNat ((u64 b).toNat.lor (u64 (a * pow2 s)).toNat) = a * pow2 s + b := by
  obtain ⟨A, rfl⟩ := Int.eq_ofNat_of_zero_le ha
  obtain ⟨B, rfl⟩ := Int.eq_ofNat_of_zero_le hb0
  have hp : pow2 s = ((2 ^ s : Nat) : Int) := rfl
  rw [hp] at hb1 hs ⊢
  have hB : B < 2 ^ s := Int.ofNat_lt.1 hb1
  have e1 : (A : Int) * ((2 ^ s : Nat) : Int) = ((2 ^ s * A : Nat) : Int) := by rw [Nat.mul_comm]; exact (Int.natCast_mul _ _).symm
  rw [e1] at hs ⊢
  have l1 := lor_add A B s hB
  generalize 2 ^ s * A = M at *
  rw [u64_in (by omega) (by omega), u64_in (by omega) (by omega)]
  simp only [Int.toNat_natCast]
  have l2 : B.lor M = M + B := by
    rw [← l1]; exact Nat.or_comm _ _
  rw [l1, l2]
  exact ⟨Int.natCast_add _ _, Int.natCast_add _ _⟩
theorem emod_unique {a k n r : Int} (h : a = k * n + r) (h0 : 0 ≤ r) (h1 : r < n) : a % n = r := by
  rw [h, Int.add_comm, Int.add_mul_emod_self_right]; exact Int.emod_eq_of_lt h0 h1
theorem ediv_unique {a k n r : Int} (h : a = k * n + r) (h0 : 0 ≤ r) (h1 : r < n) : a / n = k := by
  rw [h, Int.add_comm, Int.add_mul_ediv_right _ _ (by omega), Int.ediv_eq_zero_of_lt h0 h1]; omega
theorem shl_lt (x y p q : Int) (hq : 0 < q) (hp : 0 < p) (hpq : p * q = 18446744073709551616) (hy0 : 0 ≤ y) (hy1 : y < 18446744073709551616) :
    wHi (wVal x y * p % 340282366920938463463374607431768211456) = (x % q) * p + y / q ∧ wLo (wVal x y * p % 340282366920938463463374607431768211456) = (y % q) * p ∧
    u64 (x * p) = (x % q) * p ∧ u64 (y * p) = (y % q) * p ∧ 0 ≤ y / q ∧ y / q < p ∧ (x % q) * p + y / q < 18446744073709551616 ∧ 0 ≤ x % q := by
  have hx := Int.emod_add_mul_ediv x q
  have hy := Int.emod_add_mul_ediv y q
  have x0 := Int.emod_nonneg x (show q ≠ 0 by omega)
  have x1 := Int.emod_lt_of_pos x hq
  have y0 := Int.emod_nonneg y (show q ≠ 0 by omega)
  have y1 := Int.emod_lt_of_pos y hq
  have d0 : 0 ≤ y / q := Int.ediv_nonneg hy0 (by omega)
  have d1 : y / q < p := Int.ediv_lt_of_lt_mul hq (by rw [hpq]; exact hy1)
  generalize x % q = a at *
  generalize x / q = b at *
  generalize y % q = c at *
  generalize y / q = d at *
  have ha : a * p ≤ 18446744073709551616 - p := by
    have : a * p ≤ (q - 1) * p := Int.mul_le_mul_of_nonneg_right (by omega) (by omega)
    have e : (q - 1) * p = p * q - p := by grind
    omega
  have hc : c * p ≤ 18446744073709551616 - p := by
    have : c * p ≤ (q - 1) * p := Int.mul_le_mul_of_nonneg_right (by omega) (by omega)
    have e : (q - 1) * p = p * q - p := by grind
    omega
  have ha0 : 0 ≤ a * p := Int.mul_nonneg x0 (by omega)
  have hc0 : 0 ≤ c * p := Int.mul_nonneg y0 (by omega)
  have e1 : wVal x y * p = b * 340282366920938463463374607431768211456 + ((a * p + d) * 18446744073709551616 + c * p) := by
    unfold wVal
    rw [← hx, ← hy]
    have e : (340282366920938463463374607431768211456 : Int) = (p * q) * (p * q) := by rw [hpq]; rfl
    rw [e, ← hpq]
    grind
  have e2 : wVal x y * p % 340282366920938463463374607431768211456 = (a * p + d) * 18446744073709551616 + c * p := emod_unique e1 (by omega) (by omega)
  rw [e2]
  refine ⟨by unfold wHi; omega, by unfold wLo; omega, ?_, ?_, d0, d1, by omega, x0⟩
  · refine emod_unique (k := b) ?_ (by omega) (by omega)
    rw [← hx, ← hpq]; grind
  · refine emod_unique (k := d) ?_ (by omega) (by omega)
    rw [← hy, ← hpq]; grind
theorem shr_lt (x y p q : Int) (hq : 0 < q) (hp : 0 < p) (hpq : p * q = 18446744073709551616) (hy0 : 0 ≤ y) (hy1 : y < 18446744073709551616) :
    wHi (wVal x y / p) = x / p ∧ wLo (wVal x y / p) = (x % p) * q + y / p ∧ u64 (x * q) = (x % p) * q ∧ 0 ≤ y / p ∧ y / p < q ∧ (x % p) * q + y / p < 18446744073709551616 ∧ 0 ≤ x % p := by
  have hx := Int.emod_add_mul_ediv x p
  have hy := Int.emod_add_mul_ediv y p
  have x0 := Int.emod_nonneg x (show p ≠ 0 by omega)
  have x1 := Int.emod_lt_of_pos x hp
  have y0 := Int.emod_nonneg y (show p ≠ 0 by omega)
  have y1 := Int.emod_lt_of_pos y hp
  have d0 : 0 ≤ y / p := Int.ediv_nonneg hy0 (by omega)
  have d1 : y / p < q := Int.ediv_lt_of_lt_mul hp (by rw [Int.mul_comm, hpq]; exact hy1)
  generalize x % p = a at *
  generalize x / p = b at *
  generalize y % p = c at *
  generalize y / p = d at *
  have ha : a * q ≤ 18446744073709551616 - q := by
    have : a * q ≤ (p - 1) * q := Int.mul_le_mul_of_nonneg_right (by omega) (by omega)
    have e : (p - 1) * q = p * q - q := by grind
    omega
  have ha0 : 0 ≤ a * q := Int.mul_nonneg x0 (by omega)
  have e1 : wVal x y = (b * 18446744073709551616 + (a * q + d)) * p + c := by
    unfold wVal
    rw [← hx, ← hy, ← hpq]
    grind
  have e2 : wVal x y / p = b * 18446744073709551616 + (a * q + d) := ediv_unique e1 y0 y1
  rw [e2]
  refine ⟨by unfold wHi; omega, by unfold wLo; omega, ?_, d0, d1, by omega, x0⟩
  refine emod_unique (k := b) ?_ (by omega) (by omega)
  rw [← hx, ← hpq]; grind
end Go.Lr

/- The scalars' operations in numbers: clamping, rounding, dividing, roots. Plain. -/
namespace Go.Lr
set_option linter.unusedVariables false
def absV (a : Int) : Int := if a < 0 then -a else a
def sgn (neg : Bool) (x : Int) : Int := if neg then -x else x
theorem absV_nn (a : Int) : 0 ≤ absV a := by unfold absV; split <;> omega
theorem absV_pos {a : Int} (h : 0 ≤ a) : absV a = a := by unfold absV; rw [if_neg (by omega)]
theorem absV_eq (a : Int) : absV a = a.natAbs := by unfold absV; split <;> omega
theorem absV_mul (a b : Int) : absV (a * b) = absV a * absV b := by
  simp only [absV_eq, Int.natAbs_mul]; exact Int.natCast_mul _ _
theorem absV_negate (a : Int) : absV (-a) = absV a := by unfold absV; split <;> split <;> omega
theorem sgn_abs (a : Int) : sgn (decide (a < 0)) (absV a) = a := by
  unfold sgn absV; by_cases h : a < 0 <;> simp [h]
theorem sgn_mul (a b : Int) : sgn (!(decide (a < 0) == decide (b < 0))) (absV a * absV b) = a * b := by
  have hnn : -a * -b = a * b := by grind
  have hn1 : -(-a * b) = a * b := by grind
  have hn2 : -(a * -b) = a * b := by grind
  unfold sgn absV
  by_cases h : a < 0 <;> by_cases k : b < 0 <;> simp only [h, k, decide_true, decide_false, if_true, if_false] <;> simp [hnn, hn1, hn2]
def halfP (s : Nat) : Int := match s with
  | 0 => 0
  | n + 1 => pow2 n
def rndV (v : Int) (s : Nat) : Int := sgn (decide (v < 0)) ((absV v + halfP s) / pow2 s)
def quoR (a b : Int) : Int := if a % b ≥ b - a % b then a / b + 1 else a / b
def divV (w d : Int) : Int := sgn (!(decide (w < 0) == decide (d < 0))) (quoR (absV w) (absV d))
theorem prod_lt {a b k l : Int} (ha : absV a ≤ k) (hb : absV b ≤ l) : -(k * l) ≤ a * b ∧ a * b ≤ k * l := by
  have h0 := absV_nn a
  have h1 := absV_nn b
  have h2 : absV a * absV b ≤ k * l := Int.mul_le_mul ha hb h1 (by omega)
  rw [← absV_mul] at h2
  have h3 := sgn_abs (a * b)
  unfold absV at h2
  split at h2 <;> omega
def rtL : Nat → Int → Int → Int × Int
  | 0, p, r => (p, r)
  | k + 1, p, r => match decide (p < r + pow2 (2 * k)) with
    | true => rtL k p (r / 2)
    | false => rtL k (p - (r + pow2 (2 * k))) (r / 2 + pow2 (2 * k))
def rootW (v : Int) : Int := match rtL 64 v 0 with
  | (p, r) => if r < p then r + 1 else r
def RtInv (N : Int) (m : Nat) (p r : Int) : Prop :=
  ∃ Q : Int, 0 ≤ Q ∧ r = Q * pow2 m ∧ p = N - Q * Q ∧ Q * Q ≤ N ∧ N < (Q + pow2 m) * (Q + pow2 m) ∧ (Q = 0 ∨ pow2 m ≤ Q)
theorem pow2_dbl (m : Nat) : pow2 (2 * m) = pow2 m * pow2 m := by rw [Nat.two_mul, pow2_add]
theorem RtInv.half {N : Int} {m : Nat} {p r : Int} (h : RtInv N (m + 1) p r) (hlt : p < r + pow2 (2 * m)) : RtInv N m p (r / 2) := by
  obtain ⟨Q, h0, rfl, rfl, h3, h4, h5⟩ := h
  have hp := pow2_pos m
  have hs := pow2_succ m
  rw [pow2_dbl] at hlt
  rw [hs] at hlt h4 h5 ⊢
  have e : Q * (2 * pow2 m) = 2 * (Q * pow2 m) := by grind
  refine ⟨Q, h0, by rw [e]; omega, rfl, h3, ?_, by omega⟩
  have e2 : (Q + pow2 m) * (Q + pow2 m) = Q * Q + 2 * (Q * pow2 m) + pow2 m * pow2 m := by grind
  rw [e2]; omega
theorem RtInv.take {N : Int} {m : Nat} {p r : Int} (h : RtInv N (m + 1) p r) (hge : ¬ p < r + pow2 (2 * m)) : RtInv N m (p - (r + pow2 (2 * m))) (r / 2 + pow2 (2 * m)) := by
  obtain ⟨Q, h0, rfl, rfl, h3, h4, h5⟩ := h
  have hp := pow2_pos m
  have hs := pow2_succ m
  rw [pow2_dbl] at hge ⊢
  rw [hs] at hge h4 h5 ⊢
  have e : Q * (2 * pow2 m) = 2 * (Q * pow2 m) := by grind
  have e2 : (Q + pow2 m) * (Q + pow2 m) = Q * Q + 2 * (Q * pow2 m) + pow2 m * pow2 m := by grind
  have e3 : (Q + pow2 m) * pow2 m = Q * pow2 m + pow2 m * pow2 m := by grind
  have e4 : (Q + pow2 m + pow2 m) * (Q + pow2 m + pow2 m) = (Q + 2 * pow2 m) * (Q + 2 * pow2 m) := by grind
  rw [e] at hge ⊢
  refine ⟨Q + pow2 m, by omega, by rw [e3]; omega, by rw [e2]; omega, by rw [e2]; omega, by rw [e4]; exact h4, by omega⟩
theorem RtInv.bd {N : Int} {m : Nat} {p r : Int} (h : RtInv N m p r) : 0 ≤ p ∧ p ≤ N ∧ 0 ≤ r ∧ r ≤ N := by
  obtain ⟨Q, h0, rfl, rfl, h3, h4, h5⟩ := h
  have hp := pow2_pos m
  have hq : 0 ≤ Q * Q := Int.mul_nonneg h0 h0
  refine ⟨by omega, by omega, Int.mul_nonneg h0 (by omega), ?_⟩
  rcases h5 with rfl | h5
  · omega
  · have : Q * pow2 m ≤ Q * Q := Int.mul_le_mul_of_nonneg_left h5 h0
    omega
theorem RtInv.start {N : Int} (h0 : 0 ≤ N) (h1 : N < 340282366920938463463374607431768211456) : RtInv N 64 N 0 := by
  refine ⟨0, by omega, by omega, by omega, by omega, ?_, .inl rfl⟩
  have : pow2 64 = 18446744073709551616 := pow2_64
  rw [this]; omega
theorem RtInv.run {N : Int} : ∀ {m : Nat} {p r : Int}, RtInv N m p r → RtInv N 0 (rtL m p r).1 (rtL m p r).2
  | 0, p, r, h => h
  | m + 1, p, r, h => by
    simp only [rtL]
    by_cases hlt : p < r + pow2 (2 * m)
    · rw [decide_eq_true hlt]; exact (h.half hlt).run
    · rw [decide_eq_false hlt]; exact (h.take hlt).run
theorem rootW_spec {N : Int} (h0 : 0 ≤ N) (h1 : N < 340282366920938463463374607431768211456) :
    0 ≤ rootW N ∧ N ≤ rootW N * rootW N + rootW N ∧ (rootW N = 0 ∨ rootW N * rootW N - rootW N + 1 ≤ N) := by
  have h := (RtInv.start h0 h1).run
  unfold rootW
  generalize rtL 64 N 0 = q at h ⊢
  obtain ⟨p, r⟩ := q
  obtain ⟨Q, a0, a1, a2, a3, a4, -⟩ := h
  simp only at a1 a2 ⊢
  have e1 : pow2 0 = 1 := rfl
  rw [e1, Int.mul_one] at a1
  rw [e1] at a4
  have a1' : Q = r := a1.symm
  subst a1'
  subst a2
  have e2 : (Q + 1) * (Q + 1) = Q * Q + 2 * Q + 1 := by grind
  have hq : 0 ≤ Q * Q := Int.mul_nonneg a0 a0
  split
  · refine ⟨by omega, by rw [e2]; omega, .inr (by rw [e2]; omega)⟩
  · refine ⟨a0, by omega, ?_⟩
    by_cases h' : Q = 0
    · exact .inl h'
    · right; omega
end Go.Lr

/- This seat's program: what the evaluator leans on; math/bits' two that the model answers. -/
namespace Go.Proofs.YthbkhoknlbomgaaGreat
open Go.Lr
theorem ngAll : (Tryz.prog.funcs.toList.all fun fn => fn.name != "runtime.NumGoroutine") = true := by kernel_rfl
theorem ng : ∀ (f : FuncId) (fn : Func), Tryz.prog.funcs[f]? = some fn → fn.name ≠ "runtime.NumGoroutine" := by
  intro f fn h
  have := List.all_eq_true.1 ngAll fn (by
    have h' : Tryz.prog.funcs.toList[f]? = some fn := by simpa using h
    exact List.mem_of_getElem? h')
  simpa using this
theorem mix : Tryz.prog.follows .mixedOrders = true := by kernel_rfl
theorem sumAdd64 : SumOK Tryz.prog 179 (pureSum addF) := add64_ok Tryz.func179 (by kernel_rfl) (by kernel_rfl) (by kernel_rfl) (by kernel_rfl)
theorem sumSub64 : SumOK Tryz.prog 214 (pureSum subF) := sub64_ok Tryz.func214 (by kernel_rfl) (by kernel_rfl) (by kernel_rfl) (by kernel_rfl)
def S0 : FuncId → Option SumK := more (more (fun _ => none) 179 (pureSum addF)) 214 (pureSum subF)
theorem sound0 : Sound Tryz.prog S0 := ((Sound.none mix ng).more sumAdd64).more sumSub64
def Zl : Md := ⟨false, true, false⟩
def Za : Md := ⟨false, true, true⟩
def I (n : Int) : LV := .v (.one (.int .i64 n))
def B (b : Bool) : LV := .v (.one (.bool b))
end Go.Proofs.YthbkhoknlbomgaaGreat

/- fx: Clamp, Sat; astrolabelaw2's awake. -/
namespace Go.Proofs.YthbkhoknlbomgaaGreat
open Go.Lr
def clampV (a lo hi : Int) : Int := if lo > hi then lo else if a < lo then lo else if a > hi then hi else a
def clampH (a lo hi : Int) : Bool := decide (lo > hi) || decide (a < lo) || decide (a > hi)
def clampF : List LV → Bool → Option (LV × Bool × List (Bool × Bool))
  | [.v (.one (.int .i64 a)), .v (.one (.int .i64 lo)), .v (.one (.int .i64 hi))], h => some (I (clampV a lo hi), h || clampH a lo hi, [])
  | _, _ => none
abbrev acc3 (r : LV × Mem × Nat × List (Bool × Bool)) := (r.1, getM r.2.1 0, r.2.2.2)
theorem clamp1 (a lo hi : Int) (h : Bool) : (runF Tryz.prog S0 Zl 200 69 [A0, I a, I lo, I hi] [(0, flag 58 h)] 1 [some true]).map acc3 = some (I lo, some (flag 58 true), [(decide (lo > hi), true)]) := by kernel_rfl
theorem clamp2 (a lo hi : Int) (h : Bool) : (runF Tryz.prog S0 Zl 200 69 [A0, I a, I lo, I hi] [(0, flag 58 h)] 1 [some false, some true]).map acc3 = some (I lo, some (flag 58 true), [(decide (a < lo), true), (decide (lo > hi), false)]) := by kernel_rfl
theorem clamp3 (a lo hi : Int) (h : Bool) : (runF Tryz.prog S0 Zl 200 69 [A0, I a, I lo, I hi] [(0, flag 58 h)] 1 [some false, some false, some true]).map acc3 = some (I hi, some (flag 58 true), [(decide (a > hi), true), (decide (a < lo), false), (decide (lo > hi), false)]) := by kernel_rfl
theorem clamp4 (a lo hi : Int) (h : Bool) : (runF Tryz.prog S0 Zl 200 69 [A0, I a, I lo, I hi] [(0, flag 58 h)] 1 [some false, some false, some false]).map acc3 = some (I a, some (flag 58 h), [(decide (a > hi), false), (decide (a < lo), false), (decide (lo > hi), false)]) := by kernel_rfl
theorem sumClamp : SumOK Tryz.prog 69 (accSum 58 clampF) := by
  refine accSum_run (z := Zl) sound0 (own_of sound0 Tryz.func69 (by kernel_rfl)) fun args hb v h' cs hF _ => ?_
  unfold clampF at hF
  split at hF
  · rename_i a lo hi
    cases hF
    refine ⟨rfl, ?_⟩
    by_cases h1 : lo > hi
    · rw [show clampV a lo hi = lo by simp [clampV, h1], show (hb || clampH a lo hi) = true by simp [clampH, h1]]
      exact ⟨200, [some true], _, clamp1 a lo hi hb, by simp [h1]⟩
    · by_cases h2 : a < lo
      · rw [show clampV a lo hi = lo by simp [clampV, h2], show (hb || clampH a lo hi) = true by simp [clampH, h2]]
        exact ⟨200, [some false, some true], _, clamp2 a lo hi hb, by simp [h2]; omega⟩
      · by_cases h3 : a > hi
        · rw [show clampV a lo hi = hi by simp [clampV, h1, h2, h3], show (hb || clampH a lo hi) = true by simp [clampH, h3]]
          exact ⟨200, [some false, some false, some true], _, clamp3 a lo hi hb, by simp [h3]; omega⟩
        · rw [show clampV a lo hi = a by simp [clampV, h1, h2, h3], show (hb || clampH a lo hi) = hb by simp [clampH, h1, h2, h3]]
          exact ⟨200, [some false, some false, some false], _, clamp4 a lo hi hb, by simp; omega⟩
  · cases hF
def S2 : FuncId → Option SumK := more S0 69 (accSum 58 clampF)
theorem sound2 : Sound Tryz.prog S2 := sound0.more sumClamp
def satV (a : Int) : Int := clampV a (-1152921504606846976) 1152921504606846976
def satH (a : Int) : Bool := clampH a (-1152921504606846976) 1152921504606846976
def satF : List LV → Bool → Option (LV × Bool × List (Bool × Bool))
  | [.v (.one (.int .i64 a))], h => some (I (satV a), h || satH a, [])
  | _, _ => none
theorem sat1 (a : Int) (h : Bool) : (runF Tryz.prog S2 Zl 200 70 [A0, I a] [(0, flag 58 h)] 1 []).map acc3 = some (I (satV a), some (flag 58 (h || satH a)), []) := by kernel_rfl
theorem sumSat : SumOK Tryz.prog 70 (accSum 58 satF) := by
  refine accSum_run (z := Zl) sound2 (own_of sound2 Tryz.func70 (by kernel_rfl)) fun args hb v h' cs hF _ => ?_
  unfold satF at hF
  split at hF
  · rename_i a
    cases hF
    exact ⟨rfl, 200, [], _, sat1 a hb, by simp⟩
  · cases hF
end Go.Proofs.YthbkhoknlbomgaaGreat

/- math/bits.Mul64, wide.Of, wide.Mul, by their runs. -/
namespace Go.Proofs.YthbkhoknlbomgaaGreat
open Go.Lr
theorem runMul64 (x y : Int) : (runF Tryz.prog S0 Zl 200 122 [.v (.one (.int .u64 x)), .v (.one (.int .u64 y))] [] 0 []).map (fun r => (r.1, r.2.2.2)) = some (LV.tup [V1.one (At.int IntKind.u64 (wr IntKind.u64 (wr IntKind.u64 (wr IntKind.u64 (x / pow2 (min (Int.toNat 32) IntKind.u64.bits) * (y / pow2 (min (Int.toNat 32) IntKind.u64.bits))) + wr IntKind.u64 (wr IntKind.u64 (x / pow2 (min (Int.toNat 32) IntKind.u64.bits) * Int.ofNat ((u64 y).toNat.land (u64 4294967295).toNat)) + wr IntKind.u64 (Int.ofNat ((u64 x).toNat.land (u64 4294967295).toNat) * Int.ofNat ((u64 y).toNat.land (u64 4294967295).toNat)) / pow2 (min (Int.toNat 32) IntKind.u64.bits)) / pow2 (min (Int.toNat 32) IntKind.u64.bits)) + wr IntKind.u64 (Int.ofNat ((u64 (wr IntKind.u64 (wr IntKind.u64 (x / pow2 (min (Int.toNat 32) IntKind.u64.bits) * Int.ofNat ((u64 y).toNat.land (u64 4294967295).toNat)) + wr IntKind.u64 (Int.ofNat ((u64 x).toNat.land (u64 4294967295).toNat) * Int.ofNat ((u64 y).toNat.land (u64 4294967295).toNat)) / pow2 (min (Int.toNat 32) IntKind.u64.bits)))).toNat.land (u64 4294967295).toNat) + wr IntKind.u64 (Int.ofNat ((u64 x).toNat.land (u64 4294967295).toNat) * (y / pow2 (min (Int.toNat 32) IntKind.u64.bits)))) / pow2 (min (Int.toNat 32) IntKind.u64.bits)))), V1.one (At.int IntKind.u64 (wr IntKind.u64 (x * y)))], []) := by kernel_rfl
def isU (x : Int) : Bool := decide (0 ≤ x) && decide (x < 18446744073709551616)
def isI (x : Int) : Bool := decide (-9223372036854775808 ≤ x) && decide (x < 9223372036854775808)
theorem isU_iff {x : Int} : isU x = true ↔ 0 ≤ x ∧ x < 18446744073709551616 := by simp [isU]
theorem isI_iff {x : Int} : isI x = true ↔ -9223372036854775808 ≤ x ∧ x < 9223372036854775808 := by simp [isI]
def mul64F : List LV → Option (LV × List (Bool × Bool))
  | [.v (.one (.int .u64 x)), .v (.one (.int .u64 y))] => some (.tup [.one (.int .u64 (x * y / 18446744073709551616)), .one (.int .u64 (x * y % 18446744073709551616))], [(isU x, true), (isU y, true)])
  | _ => none
theorem sumMul64 : SumOK Tryz.prog 122 (pureSum mul64F) := by
  refine pureSum_run (z := Zl) sound0 (own_of sound0 Tryz.func122 (by kernel_rfl)) fun args v cs hF hc => ?_
  unfold mul64F at hF
  split at hF
  · rename_i x y
    cases hF
    obtain ⟨hx0, hx1⟩ := isU_iff.1 (hc (isU x, true) (by simp))
    obtain ⟨hy0, hy1⟩ := isU_iff.1 (hc (isU y, true) (by simp))
    have h := runMul64 x y
    simp only [wr_u, pow2_32u] at h
    have hm : 0 ≤ u64 (u64 (x / 4294967296 * Int.ofNat ((u64 y).toNat.land (u64 4294967295).toNat)) + u64 (Int.ofNat ((u64 x).toNat.land (u64 4294967295).toNat) * Int.ofNat ((u64 y).toNat.land (u64 4294967295).toNat)) / 4294967296) ∧
        u64 (u64 (x / 4294967296 * Int.ofNat ((u64 y).toNat.land (u64 4294967295).toNat)) + u64 (Int.ofNat ((u64 x).toNat.land (u64 4294967295).toNat) * Int.ofNat ((u64 y).toNat.land (u64 4294967295).toNat)) / 4294967296) < 18446744073709551616 := by
      generalize u64 (x / 4294967296 * Int.ofNat ((u64 y).toNat.land (u64 4294967295).toNat)) + u64 (Int.ofNat ((u64 x).toNat.land (u64 4294967295).toNat) * Int.ofNat ((u64 y).toNat.land (u64 4294967295).toNat)) / 4294967296 = t
      unfold u64; omega
    rw [land32 _ hm.1 hm.2, land32 x hx0 hx1, land32 y hy0 hy1, mulHi x y hx0 hx1 hy0 hy1] at h
    exact ⟨200, [], [], h, by simp⟩
  · cases hF
def W1 (v : Int) : V1 := .agg [.int .i64 (wHi v), .int .u64 (wLo v)]
def S4 : FuncId → Option SumK := more S0 122 (pureSum mul64F)
theorem sound4 : Sound Tryz.prog S4 := sound0.more sumMul64
end Go.Proofs.YthbkhoknlbomgaaGreat

/- wide's helpers: abs64, signed, by their runs. -/
namespace Go.Proofs.YthbkhoknlbomgaaGreat
open Go.Lr
theorem runSgP (x y : Int) : (runF Tryz.prog S4 Za 200 124 [.v (.agg [.int .u64 x, .int .u64 y]), B false] [] 0 []).map (fun r => (r.1, r.2.2.2)) = some (LV.tup [V1.agg [At.int IntKind.i64 (wr IntKind.i64 x), At.int IntKind.u64 y], V1.one (At.bool (x / pow2 (min (Int.toNat 63) IntKind.u64.bits) == 0))], []) := by kernel_rfl
theorem runSgN (x y : Int) : (runF Tryz.prog S4 Za 200 124 [.v (.agg [.int .u64 x, .int .u64 y]), B true] [] 0 [none]).map (fun r => (r.1, r.2.2.2)) = some (LV.tup [V1.agg [At.int IntKind.i64 (wr IntKind.i64 (wr IntKind.u64 (Int.ofNat ((u64 (-1)).toNat.xor (u64 x).toNat) + (Int.ofNat ((u64 (-1)).toNat.xor (u64 y).toNat) + 1 + 0) / 18446744073709551616))), At.int IntKind.u64 (u64 (Int.ofNat ((u64 (-1)).toNat.xor (u64 y).toNat) + 1 + 0))], V1.one (At.bool (x == 0 && (y == 0 && true)))], [(decide (wr IntKind.i64 (wr IntKind.u64 (Int.ofNat ((u64 (-1)).toNat.xor (u64 x).toNat) + (Int.ofNat ((u64 (-1)).toNat.xor (u64 y).toNat) + 1 + 0) / 18446744073709551616)) < 0), false), (decide (wr IntKind.i64 (wr IntKind.u64 (Int.ofNat ((u64 (-1)).toNat.xor (u64 x).toNat) + (Int.ofNat ((u64 (-1)).toNat.xor (u64 y).toNat) + 1 + 0) / 18446744073709551616)) < 0), false), (decide (wr IntKind.i64 (wr IntKind.u64 (Int.ofNat ((u64 (-1)).toNat.xor (u64 x).toNat) + (Int.ofNat ((u64 (-1)).toNat.xor (u64 y).toNat) + 1 + 0) / 18446744073709551616)) < 0), false), (decide (wr IntKind.i64 (wr IntKind.u64 (Int.ofNat ((u64 (-1)).toNat.xor (u64 x).toNat) + (Int.ofNat ((u64 (-1)).toNat.xor (u64 y).toNat) + 1 + 0) / 18446744073709551616)) < 0), false), (decide (0 ≤ Int.ofNat ((u64 (-1)).toNat.xor (u64 y).toNat)) && (decide (0 ≤ 1) && (decide (0 ≤ 0) && decide (0 ≤ 1))), true)]) := by kernel_rfl
theorem runSgT (x y : Int) : (runF Tryz.prog S4 Za 200 124 [.v (.agg [.int .u64 x, .int .u64 y]), B true] [] 0 [none, some true, some true, some true, some true, some true]).map (fun r => (r.1, r.2.2.2)) = some (LV.tup [V1.agg [At.int IntKind.i64 (wr IntKind.i64 (wr IntKind.u64 (Int.ofNat ((u64 (-1)).toNat.xor (u64 x).toNat) + (Int.ofNat ((u64 (-1)).toNat.xor (u64 y).toNat) + 1 + 0) / 18446744073709551616))), At.int IntKind.u64 (u64 (Int.ofNat ((u64 (-1)).toNat.xor (u64 y).toNat) + 1 + 0))], V1.one (At.bool true)], [(decide (wr IntKind.i64 (wr IntKind.u64 (Int.ofNat ((u64 (-1)).toNat.xor (u64 x).toNat) + (Int.ofNat ((u64 (-1)).toNat.xor (u64 y).toNat) + 1 + 0) / 18446744073709551616)) < 0), true), (decide (wr IntKind.i64 (wr IntKind.u64 (Int.ofNat ((u64 (-1)).toNat.xor (u64 x).toNat) + (Int.ofNat ((u64 (-1)).toNat.xor (u64 y).toNat) + 1 + 0) / 18446744073709551616)) < 0), true), (decide (wr IntKind.i64 (wr IntKind.u64 (Int.ofNat ((u64 (-1)).toNat.xor (u64 x).toNat) + (Int.ofNat ((u64 (-1)).toNat.xor (u64 y).toNat) + 1 + 0) / 18446744073709551616)) < 0), true), (decide (wr IntKind.i64 (wr IntKind.u64 (Int.ofNat ((u64 (-1)).toNat.xor (u64 x).toNat) + (Int.ofNat ((u64 (-1)).toNat.xor (u64 y).toNat) + 1 + 0) / 18446744073709551616)) < 0), true), (decide (0 ≤ Int.ofNat ((u64 (-1)).toNat.xor (u64 y).toNat)) && (decide (0 ≤ 1) && (decide (0 ≤ 0) && decide (0 ≤ 1))), true)]) := by kernel_rfl
theorem runAbN (a : Int) : (runF Tryz.prog S4 Zl 200 123 [I a] [] 0 [some true]).map (fun r => (r.1, r.2.2.2)) = some (LV.v (V1.one (At.int IntKind.u64 (wr IntKind.u64 (0 - wr IntKind.u64 a)))), [(decide (a < 0), true)]) := by kernel_rfl
theorem runAbP (a : Int) : (runF Tryz.prog S4 Zl 200 123 [I a] [] 0 [some false]).map (fun r => (r.1, r.2.2.2)) = some (LV.v (V1.one (At.int IntKind.u64 (wr IntKind.u64 a))), [(decide (a < 0), false)]) := by kernel_rfl
def absF : List LV → Option (LV × List (Bool × Bool))
  | [.v (.one (.int .i64 a))] => some (.v (.one (.int .u64 (absV a))), [(isI a, true)])
  | _ => none
theorem sumAbs64 : SumOK Tryz.prog 123 (pureSum absF) := by
  refine pureSum_run (z := Zl) sound4 (own_of sound4 Tryz.func123 (by kernel_rfl)) fun args v cs hF hc => ?_
  unfold absF at hF
  split at hF
  · rename_i a
    cases hF
    obtain ⟨h0, h1⟩ := isI_iff.1 (hc (isI a, true) (by simp))
    by_cases ha : a < 0
    · rw [show absV a = -a from if_pos ha]
      have h := runAbN a
      rw [show wr .u64 (0 - wr .u64 a) = -a by simp only [wr_u]; unfold u64; omega] at h
      exact ⟨200, [some true], _, h, by simp [ha]⟩
    · rw [show absV a = a from if_neg ha]
      have h := runAbP a
      rw [show wr .u64 a = a by simp only [wr_u]; unfold u64; omega] at h
      exact ⟨200, [some false], _, h, by simp; omega⟩
  · cases hF
def isW (v : Int) : Bool := decide (-170141183460469231731687303715884105728 ≤ v) && decide (v < 170141183460469231731687303715884105728)
def signedF : List LV → Option (LV × List (Bool × Bool))
  | [.v (.agg [.int .u64 x, .int .u64 y]), .v (.one (.bool neg))] =>
    some (.tup [.agg [.int .i64 (w64 (wHi (sgn neg (wVal x y)))), .int .u64 (wLo (sgn neg (wVal x y)))], .one (.bool (isW (sgn neg (wVal x y))))], [(isU x, true), (isU y, true)])
  | _ => none
theorem sgL {a a' b b' : Int} {c c' : Bool} (cs : List (Bool × Bool)) (h1 : a = a') (h2 : b = b') (h3 : c = c') :
    some (LV.tup [V1.agg [At.int .i64 a, At.int .u64 b], V1.one (At.bool c)], cs) = some (LV.tup [V1.agg [At.int .i64 a', At.int .u64 b'], V1.one (At.bool c')], cs) := by
  subst h1; subst h2; subst h3; rfl
theorem isW_iff {v : Int} : isW v = true ↔ -170141183460469231731687303715884105728 ≤ v ∧ v < 170141183460469231731687303715884105728 := by simp [isW]
theorem neg_lo (x y : Int) :
    u64 (18446744073709551615 - y + 1 + 0) = wLo (-(wVal x y)) := by unfold u64 wLo wVal; omega
theorem neg_hi (x y : Int) :
    w64 (u64 (18446744073709551615 - x + (18446744073709551615 - y + 1 + 0) / 18446744073709551616)) = w64 (wHi (-(wVal x y))) := by unfold w64 u64 wHi wVal; omega
theorem neg_lt (x y : Int) (hx0 : 0 ≤ x) (hx1 : x < 18446744073709551616) (h0 : 0 ≤ y) (h1 : y < 18446744073709551616)
    (h : w64 (wHi (-(wVal x y))) < 0) : -170141183460469231731687303715884105728 ≤ -(wVal x y) ∧ -(wVal x y) < 170141183460469231731687303715884105728 := by
  revert h; unfold w64 wHi wVal; omega
theorem neg_ge (x y : Int) (hx0 : 0 ≤ x) (hx1 : x < 18446744073709551616) (h0 : 0 ≤ y) (h1 : y < 18446744073709551616)
    (h : ¬ w64 (wHi (-(wVal x y))) < 0) : (-170141183460469231731687303715884105728 ≤ -(wVal x y) ∧ -(wVal x y) < 170141183460469231731687303715884105728) ↔ (x = 0 ∧ y = 0) := by
  revert h; unfold w64 wHi wVal; omega
theorem pos_ok (x y : Int) (hx0 : 0 ≤ x) (hx1 : x < 18446744073709551616) (h0 : 0 ≤ y) (h1 : y < 18446744073709551616) :
    x / 9223372036854775808 = 0 ↔ (-170141183460469231731687303715884105728 ≤ wVal x y ∧ wVal x y < 170141183460469231731687303715884105728) := by
  unfold wVal; omega
theorem sumSigned : SumOK Tryz.prog 124 (pureSum signedF) := by
  refine pureSum_run (z := Za) sound4 (own_of sound4 Tryz.func124 (by kernel_rfl)) fun args v cs hF hc => ?_
  unfold signedF at hF
  split at hF
  · rename_i x y neg
    cases hF
    obtain ⟨hx0, hx1⟩ := isU_iff.1 (hc (isU x, true) (by simp))
    obtain ⟨hy0, hy1⟩ := isU_iff.1 (hc (isU y, true) (by simp))
    cases neg with
    | false =>
      have h := runSgP x y
      refine ⟨200, [], [], h.trans (sgL [] ?_ ?_ ?_), by simp⟩
      · show w64 x = w64 (wHi (wVal x y)); rw [hi_mk x y hy0 hy1]
      · show y = wLo (wVal x y); rw [lo_mk x y hy0 hy1]
      · show (x / 9223372036854775808 == 0) = isW (wVal x y)
        rw [Bool.eq_iff_iff, isW_iff, beq_iff_eq]
        exact pos_ok x y hx0 hx1 hy0 hy1
    | true =>
      have hs : sgn true (wVal x y) = -(wVal x y) := rfl
      rw [hs]
      by_cases hn : w64 (wHi (-(wVal x y))) < 0
      · have h := runSgT x y
        simp only [wr_u, wr_i, lnot x hx0 hx1, lnot y hy0 hy1, neg_hi x y, neg_lo x y] at h
        refine ⟨200, _, _, h.trans (sgL _ rfl rfl ?_), ?_⟩
        · symm; exact isW_iff.2 (neg_lt x y hx0 hx1 hy0 hy1 hn)
        · simp [hn]; omega
      · have h := runSgN x y
        simp only [wr_u, wr_i, lnot x hx0 hx1, lnot y hy0 hy1, neg_hi x y, neg_lo x y] at h
        refine ⟨200, _, _, h.trans (sgL _ rfl rfl ?_), ?_⟩
        · show (x == 0 && (y == 0 && true)) = isW (-(wVal x y))
          rw [Bool.eq_iff_iff, isW_iff, neg_ge x y hx0 hx1 hy0 hy1 hn]; simp
        · simp [hn]; omega
  · cases hF
def S5 : FuncId → Option SumK := more (more S4 123 (pureSum absF)) 124 (pureSum signedF)
theorem sound5 : Sound Tryz.prog S5 := (sound4.more sumAbs64).more sumSigned
end Go.Proofs.YthbkhoknlbomgaaGreat

/- wide: the small functions, by every path of their runs (printed by contract.py). -/
namespace Go.Proofs.YthbkhoknlbomgaaGreat
open Go.Lr
theorem wabsR1 (x y : Int) : (runF Tryz.prog S5 Zl 2000 126 [.v (.agg [.int .i64 x, .int .u64 y])] [] 0 [some true]).map (fun r => (r.1, r.2.2.2)) = some (LV.tup [V1.agg [At.int IntKind.u64 (wr IntKind.u64 x), At.int IntKind.u64 y], V1.one (At.bool false)], [(decide (x ≥ 0), true)]) := by kernel_rfl
theorem wabsR2 (x y : Int) : (runF Tryz.prog S5 Zl 2000 126 [.v (.agg [.int .i64 x, .int .u64 y])] [] 0 [some false]).map (fun r => (r.1, r.2.2.2)) = some (LV.tup [V1.agg [At.int IntKind.u64 (wr IntKind.u64 (Int.ofNat ((u64 (-1)).toNat.xor (u64 (wr IntKind.u64 x)).toNat) + (Int.ofNat ((u64 (-1)).toNat.xor (u64 y).toNat) + 1 + 0) / 18446744073709551616)), At.int IntKind.u64 (u64 (Int.ofNat ((u64 (-1)).toNat.xor (u64 y).toNat) + 1 + 0))], V1.one (At.bool true)], [(decide (0 ≤ Int.ofNat ((u64 (-1)).toNat.xor (u64 y).toNat)) && (decide (0 ≤ 1) && (decide (0 ≤ 0) && decide (0 ≤ 1))), true), (decide (x ≥ 0), false)]) := by kernel_rfl
def wabsT (x y : Int) : Option (LV × List (Bool × Bool)) := 
  bif (decide (x ≥ 0)) then some (LV.tup [V1.agg [At.int IntKind.u64 (wr IntKind.u64 x), At.int IntKind.u64 y], V1.one (At.bool false)], [])
  else some (LV.tup [V1.agg [At.int IntKind.u64 (wr IntKind.u64 (Int.ofNat ((u64 (-1)).toNat.xor (u64 (wr IntKind.u64 x)).toNat) + (Int.ofNat ((u64 (-1)).toNat.xor (u64 y).toNat) + 1 + 0) / 18446744073709551616)), At.int IntKind.u64 (u64 (Int.ofNat ((u64 (-1)).toNat.xor (u64 y).toNat) + 1 + 0))], V1.one (At.bool true)], [(decide (0 ≤ Int.ofNat ((u64 (-1)).toNat.xor (u64 y).toNat)) && (decide (0 ≤ 1) && (decide (0 ≤ 0) && decide (0 ≤ 1))), true)])
def wabsF : List LV → Option (LV × List (Bool × Bool))
  | [.v (.agg [.int .i64 x, .int .u64 y])] => wabsT x y
  | _ => none
theorem sumwabs : SumOK Tryz.prog 126 (pureSum wabsF) := by
  refine pureSum_run (z := Zl) sound5 (own_of sound5 Tryz.func126 (by kernel_rfl)) fun args v cs hF hc => ?_
  unfold wabsF at hF
  split at hF
  · rename_i x y
    unfold wabsT at hF
    rcases bool_cases (decide (x ≥ 0)) with h0 | h0
    · rw [cond_t h0] at hF
      cases hF
      exact ⟨2000, [some true], _, wabsR1 x y, ae_cons (h0) (ae_nil)⟩
    · rw [cond_f h0] at hF
      cases hF
      exact ⟨2000, [some false], _, wabsR2 x y, ae_cons (hd_of (hc)) (ae_cons (h0) (ae_nil))⟩
  · cases hF
theorem wplusR1 (x y x' y' : Int) : (runF Tryz.prog S5 Zl 2000 127 [.v (.agg [.int .u64 x, .int .u64 y]), .v (.agg [.int .u64 x', .int .u64 y'])] [] 0 []).map (fun r => (r.1, r.2.2.2)) = some (LV.v (V1.agg [At.int IntKind.u64 (u64 (x + x' + (y + y' + 0) / 18446744073709551616)), At.int IntKind.u64 (u64 (y + y' + 0))]), [(decide (0 ≤ x) && (decide (0 ≤ x') && (decide (0 ≤ (y + y' + 0) / 18446744073709551616) && decide ((y + y' + 0) / 18446744073709551616 ≤ 1))), true), (decide (0 ≤ y) && (decide (0 ≤ y') && (decide (0 ≤ 0) && decide (0 ≤ 1))), true)]) := by kernel_rfl
def wplusT (x y x' y' : Int) : Option (LV × List (Bool × Bool)) := some (LV.v (V1.agg [At.int IntKind.u64 (u64 (x + x' + (y + y' + 0) / 18446744073709551616)), At.int IntKind.u64 (u64 (y + y' + 0))]), [(decide (0 ≤ x) && (decide (0 ≤ x') && (decide (0 ≤ (y + y' + 0) / 18446744073709551616) && decide ((y + y' + 0) / 18446744073709551616 ≤ 1))), true), (decide (0 ≤ y) && (decide (0 ≤ y') && (decide (0 ≤ 0) && decide (0 ≤ 1))), true)])
def wplusF : List LV → Option (LV × List (Bool × Bool))
  | [.v (.agg [.int .u64 x, .int .u64 y]), .v (.agg [.int .u64 x', .int .u64 y'])] => wplusT x y x' y'
  | _ => none
theorem sumwplus : SumOK Tryz.prog 127 (pureSum wplusF) := by
  refine pureSum_run (z := Zl) sound5 (own_of sound5 Tryz.func127 (by kernel_rfl)) fun args v cs hF hc => ?_
  unfold wplusF at hF
  split at hF
  · rename_i x y x' y'
    unfold wplusT at hF
    cases hF
    exact ⟨2000, [], _, wplusR1 x y x' y', ae_cons (hd_of (hc)) (ae_cons (hd_of (tl_of (hc))) (ae_nil))⟩
  · cases hF
theorem wlessR1 (x y x' y' : Int) : (runF Tryz.prog S5 Zl 2000 182 [.v (.agg [.int .u64 x, .int .u64 y]), .v (.agg [.int .u64 x', .int .u64 y'])] [] 0 [some true, some true, some true, some true, some true, some true, none, none, none, none, none, some true, none, some true]).map (fun r => (r.1, r.2.2.2)) = some (LV.v (V1.one (At.bool true)), [(decide (x < x'), true), (decide (x < x'), true), (decide (x < x'), true), (decide (x < x'), true), (decide (x < x'), true), (decide (x < x'), true), (decide (x < x'), true), (decide (x < x'), true)]) := by kernel_rfl
theorem wlessR2 (x y x' y' : Int) : (runF Tryz.prog S5 Zl 2000 182 [.v (.agg [.int .u64 x, .int .u64 y]), .v (.agg [.int .u64 x', .int .u64 y'])] [] 0 [some false, some false, some false, some false, some false, some false, some true, some true, some true, some true, some true, some false, some true, some false]).map (fun r => (r.1, r.2.2.2)) = some (LV.v (V1.one (At.bool (decide (y < y')))), [(decide (x < x'), false), (decide (x < x'), false), (x == x', true), (x == x', true), (x == x', true), (x == x', true), (x == x', true), (x == x', true), (decide (x < x'), false), (decide (x < x'), false), (decide (x < x'), false), (decide (x < x'), false), (decide (x < x'), false), (decide (x < x'), false)]) := by kernel_rfl
theorem wlessR3 (x y x' y' : Int) : (runF Tryz.prog S5 Zl 2000 182 [.v (.agg [.int .u64 x, .int .u64 y]), .v (.agg [.int .u64 x', .int .u64 y'])] [] 0 [some false, some false, some false, some false, some false, some false, some false, some false, some false, some false, some false, some false, some false, some false]).map (fun r => (r.1, r.2.2.2)) = some (LV.v (V1.one (At.bool false)), [(decide (x < x'), false), (decide (x < x'), false), (x == x', false), (x == x', false), (x == x', false), (x == x', false), (x == x', false), (x == x', false), (decide (x < x'), false), (decide (x < x'), false), (decide (x < x'), false), (decide (x < x'), false), (decide (x < x'), false), (decide (x < x'), false)]) := by kernel_rfl
def wlessT (x y x' y' : Int) : Option (LV × List (Bool × Bool)) := 
  bif (decide (x < x')) then some (LV.v (V1.one (At.bool true)), [])
  else 
    bif (x == x') then some (LV.v (V1.one (At.bool (decide (y < y')))), [])
    else some (LV.v (V1.one (At.bool false)), [])
def wlessF : List LV → Option (LV × List (Bool × Bool))
  | [.v (.agg [.int .u64 x, .int .u64 y]), .v (.agg [.int .u64 x', .int .u64 y'])] => wlessT x y x' y'
  | _ => none
theorem sumwless : SumOK Tryz.prog 182 (pureSum wlessF) := by
  refine pureSum_run (z := Zl) sound5 (own_of sound5 Tryz.func182 (by kernel_rfl)) fun args v cs hF hc => ?_
  unfold wlessF at hF
  split at hF
  · rename_i x y x' y'
    unfold wlessT at hF
    rcases bool_cases (decide (x < x')) with h0 | h0
    · rw [cond_t h0] at hF
      cases hF
      exact ⟨2000, [some true, some true, some true, some true, some true, some true, none, none, none, none, none, some true, none, some true], _, wlessR1 x y x' y', ae_cons (h0) (ae_cons (h0) (ae_cons (h0) (ae_cons (h0) (ae_cons (h0) (ae_cons (h0) (ae_cons (h0) (ae_cons (h0) (ae_nil))))))))⟩
    · rw [cond_f h0] at hF
      rcases bool_cases (x == x') with h1 | h1
      · rw [cond_t h1] at hF
        cases hF
        exact ⟨2000, [some false, some false, some false, some false, some false, some false, some true, some true, some true, some true, some true, some false, some true, some false], _, wlessR2 x y x' y', ae_cons (h0) (ae_cons (h0) (ae_cons (h1) (ae_cons (h1) (ae_cons (h1) (ae_cons (h1) (ae_cons (h1) (ae_cons (h1) (ae_cons (h0) (ae_cons (h0) (ae_cons (h0) (ae_cons (h0) (ae_cons (h0) (ae_cons (h0) (ae_nil))))))))))))))⟩
      · rw [cond_f h1] at hF
        cases hF
        exact ⟨2000, [some false, some false, some false, some false, some false, some false, some false, some false, some false, some false, some false, some false, some false, some false], _, wlessR3 x y x' y', ae_cons (h0) (ae_cons (h0) (ae_cons (h1) (ae_cons (h1) (ae_cons (h1) (ae_cons (h1) (ae_cons (h1) (ae_cons (h1) (ae_cons (h0) (ae_cons (h0) (ae_cons (h0) (ae_cons (h0) (ae_cons (h0) (ae_cons (h0) (ae_nil))))))))))))))⟩
  · cases hF
theorem sg64R1 (x y : Int) (n : Bool) : (runF Tryz.prog S5 Zl 2000 129 [.v (.agg [.int .u64 x, .int .u64 y]), .v (.one (.bool n))] [] 0 [some true, some true]).map (fun r => (r.1, r.2.2.2)) = some (LV.tup [V1.one (At.int IntKind.i64 0), V1.one (At.bool false)], [(x != 0, true), (x != 0, true)]) := by kernel_rfl
theorem sg64R2 (x y : Int) (n : Bool) : (runF Tryz.prog S5 Zl 2000 129 [.v (.agg [.int .u64 x, .int .u64 y]), .v (.one (.bool n))] [] 0 [some false, some true, some true, some true, some true, some true, some true]).map (fun r => (r.1, r.2.2.2)) = some (LV.tup [V1.one (At.int IntKind.i64 0), V1.one (At.bool false)], [(decide (y > 9223372036854775807), true), (decide (y > 9223372036854775807), true), (!n, true), (!n, true), (!n, true), (!n, true), (x != 0, false)]) := by kernel_rfl
theorem sg64R3 (x y : Int) (n : Bool) : (runF Tryz.prog S5 Zl 2000 129 [.v (.agg [.int .u64 x, .int .u64 y]), .v (.one (.bool n))] [] 0 [some false, some true, some true, some true, some true, some false, some true, some true, some true, some true, some true]).map (fun r => (r.1, r.2.2.2)) = some (LV.tup [V1.one (At.int IntKind.i64 0), V1.one (At.bool false)], [(decide (y > 9223372036854775808), true), (n, true), (n, true), (n, true), (n, true), (decide (y > 9223372036854775807), false), (!n, true), (!n, true), (!n, true), (!n, true), (x != 0, false)]) := by kernel_rfl
theorem sg64R4 (x y : Int) (n : Bool) : (runF Tryz.prog S5 Zl 2000 129 [.v (.agg [.int .u64 x, .int .u64 y]), .v (.one (.bool n))] [] 0 [some false, some true, some true, some true, some true, some false, some true, some true, some true, some true, some false, some true]).map (fun r => (r.1, r.2.2.2)) = some (LV.tup [V1.one (At.int IntKind.i64 (wr IntKind.i64 (wr IntKind.u64 (0 - y)))), V1.one (At.bool true)], [(n, true), (decide (y > 9223372036854775808), false), (n, true), (n, true), (n, true), (n, true), (decide (y > 9223372036854775807), false), (!n, true), (!n, true), (!n, true), (!n, true), (x != 0, false)]) := by kernel_rfl
theorem sg64R5 (x y : Int) (n : Bool) : (runF Tryz.prog S5 Zl 2000 129 [.v (.agg [.int .u64 x, .int .u64 y]), .v (.one (.bool n))] [] 0 [some false, some true, some true, some true, some true, some false, some false, some false, some false, some false, none, some false]).map (fun r => (r.1, r.2.2.2)) = some (LV.tup [V1.one (At.int IntKind.i64 (wr IntKind.i64 y)), V1.one (At.bool true)], [(n, false), (n, false), (n, false), (n, false), (n, false), (decide (y > 9223372036854775807), false), (!n, true), (!n, true), (!n, true), (!n, true), (x != 0, false)]) := by kernel_rfl
theorem sg64R6 (x y : Int) (n : Bool) : (runF Tryz.prog S5 Zl 2000 129 [.v (.agg [.int .u64 x, .int .u64 y]), .v (.one (.bool n))] [] 0 [some false, some false, some false, some false, some false, none, some true, some true, some true, some true, some true]).map (fun r => (r.1, r.2.2.2)) = some (LV.tup [V1.one (At.int IntKind.i64 0), V1.one (At.bool false)], [(decide (y > 9223372036854775808), true), (n, true), (n, true), (n, true), (n, true), (!n, false), (!n, false), (!n, false), (!n, false), (x != 0, false)]) := by kernel_rfl
theorem sg64R7 (x y : Int) (n : Bool) : (runF Tryz.prog S5 Zl 2000 129 [.v (.agg [.int .u64 x, .int .u64 y]), .v (.one (.bool n))] [] 0 [some false, some false, some false, some false, some false, none, some true, some true, some true, some true, some false, some true]).map (fun r => (r.1, r.2.2.2)) = some (LV.tup [V1.one (At.int IntKind.i64 (wr IntKind.i64 (wr IntKind.u64 (0 - y)))), V1.one (At.bool true)], [(n, true), (decide (y > 9223372036854775808), false), (n, true), (n, true), (n, true), (n, true), (!n, false), (!n, false), (!n, false), (!n, false), (x != 0, false)]) := by kernel_rfl
theorem sg64R8 (x y : Int) (n : Bool) : (runF Tryz.prog S5 Zl 2000 129 [.v (.agg [.int .u64 x, .int .u64 y]), .v (.one (.bool n))] [] 0 [some false, some false, some false, some false, some false, none, some false, some false, some false, some false, none, some false]).map (fun r => (r.1, r.2.2.2)) = some (LV.tup [V1.one (At.int IntKind.i64 (wr IntKind.i64 y)), V1.one (At.bool true)], [(n, false), (n, false), (n, false), (n, false), (n, false), (!n, false), (!n, false), (!n, false), (!n, false), (x != 0, false)]) := by kernel_rfl
def sg64T (x y : Int) (n : Bool) : Option (LV × List (Bool × Bool)) := 
  bif (x != 0) then some (LV.tup [V1.one (At.int IntKind.i64 0), V1.one (At.bool false)], [])
  else 
    bif (!n) then 
      bif (decide (y > 9223372036854775807)) then some (LV.tup [V1.one (At.int IntKind.i64 0), V1.one (At.bool false)], [])
      else 
        bif (n) then 
          bif (decide (y > 9223372036854775808)) then some (LV.tup [V1.one (At.int IntKind.i64 0), V1.one (At.bool false)], [])
          else some (LV.tup [V1.one (At.int IntKind.i64 (wr IntKind.i64 (wr IntKind.u64 (0 - y)))), V1.one (At.bool true)], [])
        else some (LV.tup [V1.one (At.int IntKind.i64 (wr IntKind.i64 y)), V1.one (At.bool true)], [])
    else 
      bif (n) then 
        bif (decide (y > 9223372036854775808)) then some (LV.tup [V1.one (At.int IntKind.i64 0), V1.one (At.bool false)], [])
        else some (LV.tup [V1.one (At.int IntKind.i64 (wr IntKind.i64 (wr IntKind.u64 (0 - y)))), V1.one (At.bool true)], [])
      else some (LV.tup [V1.one (At.int IntKind.i64 (wr IntKind.i64 y)), V1.one (At.bool true)], [])
def sg64F : List LV → Option (LV × List (Bool × Bool))
  | [.v (.agg [.int .u64 x, .int .u64 y]), .v (.one (.bool n))] => sg64T x y n
  | _ => none
theorem sumsg64 : SumOK Tryz.prog 129 (pureSum sg64F) := by
  refine pureSum_run (z := Zl) sound5 (own_of sound5 Tryz.func129 (by kernel_rfl)) fun args v cs hF hc => ?_
  unfold sg64F at hF
  split at hF
  · rename_i x y n
    unfold sg64T at hF
    rcases bool_cases (x != 0) with h0 | h0
    · rw [cond_t h0] at hF
      cases hF
      exact ⟨2000, [some true, some true], _, sg64R1 x y n, ae_cons (h0) (ae_cons (h0) (ae_nil))⟩
    · rw [cond_f h0] at hF
      rcases bool_cases (!n) with h1 | h1
      · rw [cond_t h1] at hF
        rcases bool_cases (decide (y > 9223372036854775807)) with h2 | h2
        · rw [cond_t h2] at hF
          cases hF
          exact ⟨2000, [some false, some true, some true, some true, some true, some true, some true], _, sg64R2 x y n, ae_cons (h2) (ae_cons (h2) (ae_cons (h1) (ae_cons (h1) (ae_cons (h1) (ae_cons (h1) (ae_cons (h0) (ae_nil)))))))⟩
        · rw [cond_f h2] at hF
          rcases bool_cases (n) with h3 | h3
          · rw [cond_t h3] at hF
            rcases bool_cases (decide (y > 9223372036854775808)) with h4 | h4
            · rw [cond_t h4] at hF
              cases hF
              exact ⟨2000, [some false, some true, some true, some true, some true, some false, some true, some true, some true, some true, some true], _, sg64R3 x y n, ae_cons (h4) (ae_cons (h3) (ae_cons (h3) (ae_cons (h3) (ae_cons (h3) (ae_cons (h2) (ae_cons (h1) (ae_cons (h1) (ae_cons (h1) (ae_cons (h1) (ae_cons (h0) (ae_nil)))))))))))⟩
            · rw [cond_f h4] at hF
              cases hF
              exact ⟨2000, [some false, some true, some true, some true, some true, some false, some true, some true, some true, some true, some false, some true], _, sg64R4 x y n, ae_cons (h3) (ae_cons (h4) (ae_cons (h3) (ae_cons (h3) (ae_cons (h3) (ae_cons (h3) (ae_cons (h2) (ae_cons (h1) (ae_cons (h1) (ae_cons (h1) (ae_cons (h1) (ae_cons (h0) (ae_nil))))))))))))⟩
          · rw [cond_f h3] at hF
            cases hF
            exact ⟨2000, [some false, some true, some true, some true, some true, some false, some false, some false, some false, some false, none, some false], _, sg64R5 x y n, ae_cons (h3) (ae_cons (h3) (ae_cons (h3) (ae_cons (h3) (ae_cons (h3) (ae_cons (h2) (ae_cons (h1) (ae_cons (h1) (ae_cons (h1) (ae_cons (h1) (ae_cons (h0) (ae_nil)))))))))))⟩
      · rw [cond_f h1] at hF
        rcases bool_cases (n) with h2 | h2
        · rw [cond_t h2] at hF
          rcases bool_cases (decide (y > 9223372036854775808)) with h3 | h3
          · rw [cond_t h3] at hF
            cases hF
            exact ⟨2000, [some false, some false, some false, some false, some false, none, some true, some true, some true, some true, some true], _, sg64R6 x y n, ae_cons (h3) (ae_cons (h2) (ae_cons (h2) (ae_cons (h2) (ae_cons (h2) (ae_cons (h1) (ae_cons (h1) (ae_cons (h1) (ae_cons (h1) (ae_cons (h0) (ae_nil))))))))))⟩
          · rw [cond_f h3] at hF
            cases hF
            exact ⟨2000, [some false, some false, some false, some false, some false, none, some true, some true, some true, some true, some false, some true], _, sg64R7 x y n, ae_cons (h2) (ae_cons (h3) (ae_cons (h2) (ae_cons (h2) (ae_cons (h2) (ae_cons (h2) (ae_cons (h1) (ae_cons (h1) (ae_cons (h1) (ae_cons (h1) (ae_cons (h0) (ae_nil)))))))))))⟩
        · rw [cond_f h2] at hF
          cases hF
          exact ⟨2000, [some false, some false, some false, some false, some false, none, some false, some false, some false, some false, none, some false], _, sg64R8 x y n, ae_cons (h2) (ae_cons (h2) (ae_cons (h2) (ae_cons (h2) (ae_cons (h2) (ae_cons (h1) (ae_cons (h1) (ae_cons (h1) (ae_cons (h1) (ae_cons (h0) (ae_nil))))))))))⟩
  · cases hF
end Go.Proofs.YthbkhoknlbomgaaGreat

/- wide: shl, shr, minus, Of, add, by every path of their runs (printed by contract.py). -/
namespace Go.Proofs.YthbkhoknlbomgaaGreat
open Go.Lr
theorem wshlR1 (x y s : Int) : (runF Tryz.prog S5 Zl 2000 128 [.v (.agg [.int .u64 x, .int .u64 y]), .v (.one (.int .i64 s))] [] 0 [some true]).map (fun r => (r.1, r.2.2.2)) = some (LV.v (V1.agg [At.int IntKind.u64 (wr IntKind.u64 (y * pow2 (min (wr IntKind.i64 (s - 64)).toNat IntKind.u64.bits))), At.int IntKind.u64 0]), [(decide (wr IntKind.i64 (s - 64) < 0), false), (decide (s ≥ 64), true)]) := by kernel_rfl
theorem wshlR2 (x y s : Int) : (runF Tryz.prog S5 Zl 2000 128 [.v (.agg [.int .u64 x, .int .u64 y]), .v (.one (.int .i64 s))] [] 0 [some false]).map (fun r => (r.1, r.2.2.2)) = some (LV.v (V1.agg [At.int IntKind.u64 (Int.ofNat ((u64 (wr IntKind.u64 (x * pow2 (min s.toNat IntKind.u64.bits)))).toNat.lor (u64 (y / pow2 (min (wr IntKind.i64 (64 - s)).toNat IntKind.u64.bits))).toNat)), At.int IntKind.u64 (wr IntKind.u64 (y * pow2 (min s.toNat IntKind.u64.bits)))]), [(decide (s < 0), false), (decide (wr IntKind.i64 (64 - s) < 0), false), (decide (s < 0), false), (decide (s ≥ 64), false)]) := by kernel_rfl
def wshlT (x y s : Int) : Option (LV × List (Bool × Bool)) := 
  bif (decide (s ≥ 64)) then some (LV.v (V1.agg [At.int IntKind.u64 (wr IntKind.u64 (y * pow2 (min (wr IntKind.i64 (s - 64)).toNat IntKind.u64.bits))), At.int IntKind.u64 0]), [(decide (wr IntKind.i64 (s - 64) < 0), false)])
  else some (LV.v (V1.agg [At.int IntKind.u64 (Int.ofNat ((u64 (wr IntKind.u64 (x * pow2 (min s.toNat IntKind.u64.bits)))).toNat.lor (u64 (y / pow2 (min (wr IntKind.i64 (64 - s)).toNat IntKind.u64.bits))).toNat)), At.int IntKind.u64 (wr IntKind.u64 (y * pow2 (min s.toNat IntKind.u64.bits)))]), [(decide (s < 0), false), (decide (wr IntKind.i64 (64 - s) < 0), false)])
def wshlF : List LV → Option (LV × List (Bool × Bool))
  | [.v (.agg [.int .u64 x, .int .u64 y]), .v (.one (.int .i64 s))] => wshlT x y s
  | _ => none
theorem sumwshl : SumOK Tryz.prog 128 (pureSum wshlF) := by
  refine pureSum_run (z := Zl) sound5 (own_of sound5 Tryz.func128 (by kernel_rfl)) fun args v cs hF hc => ?_
  unfold wshlF at hF
  split at hF
  · rename_i x y s
    unfold wshlT at hF
    rcases bool_cases (decide (s ≥ 64)) with h0 | h0
    · rw [cond_t h0] at hF
      cases hF
      exact ⟨2000, [some true], _, wshlR1 x y s, ae_cons (hd_of (hc)) (ae_cons (h0) (ae_nil))⟩
    · rw [cond_f h0] at hF
      cases hF
      exact ⟨2000, [some false], _, wshlR2 x y s, ae_cons (hd_of (hc)) (ae_cons (hd_of (tl_of (hc))) (ae_cons (hd_of (hc)) (ae_cons (h0) (ae_nil))))⟩
  · cases hF
theorem wshrR1 (x y s : Int) : (runF Tryz.prog S5 Zl 2000 130 [.v (.agg [.int .u64 x, .int .u64 y]), .v (.one (.int .i64 s))] [] 0 [some true]).map (fun r => (r.1, r.2.2.2)) = some (LV.v (V1.agg [At.int IntKind.u64 0, At.int IntKind.u64 (x / pow2 (min (wr IntKind.i64 (s - 64)).toNat IntKind.u64.bits))]), [(decide (wr IntKind.i64 (s - 64) < 0), false), (decide (s ≥ 64), true)]) := by kernel_rfl
theorem wshrR2 (x y s : Int) : (runF Tryz.prog S5 Zl 2000 130 [.v (.agg [.int .u64 x, .int .u64 y]), .v (.one (.int .i64 s))] [] 0 [some false]).map (fun r => (r.1, r.2.2.2)) = some (LV.v (V1.agg [At.int IntKind.u64 (x / pow2 (min s.toNat IntKind.u64.bits)), At.int IntKind.u64 (Int.ofNat ((u64 (y / pow2 (min s.toNat IntKind.u64.bits))).toNat.lor (u64 (wr IntKind.u64 (x * pow2 (min (wr IntKind.i64 (64 - s)).toNat IntKind.u64.bits)))).toNat))]), [(decide (wr IntKind.i64 (64 - s) < 0), false), (decide (s < 0), false), (decide (s < 0), false), (decide (s ≥ 64), false)]) := by kernel_rfl
def wshrT (x y s : Int) : Option (LV × List (Bool × Bool)) := 
  bif (decide (s ≥ 64)) then some (LV.v (V1.agg [At.int IntKind.u64 0, At.int IntKind.u64 (x / pow2 (min (wr IntKind.i64 (s - 64)).toNat IntKind.u64.bits))]), [(decide (wr IntKind.i64 (s - 64) < 0), false)])
  else some (LV.v (V1.agg [At.int IntKind.u64 (x / pow2 (min s.toNat IntKind.u64.bits)), At.int IntKind.u64 (Int.ofNat ((u64 (y / pow2 (min s.toNat IntKind.u64.bits))).toNat.lor (u64 (wr IntKind.u64 (x * pow2 (min (wr IntKind.i64 (64 - s)).toNat IntKind.u64.bits)))).toNat))]), [(decide (wr IntKind.i64 (64 - s) < 0), false), (decide (s < 0), false)])
def wshrF : List LV → Option (LV × List (Bool × Bool))
  | [.v (.agg [.int .u64 x, .int .u64 y]), .v (.one (.int .i64 s))] => wshrT x y s
  | _ => none
theorem sumwshr : SumOK Tryz.prog 130 (pureSum wshrF) := by
  refine pureSum_run (z := Zl) sound5 (own_of sound5 Tryz.func130 (by kernel_rfl)) fun args v cs hF hc => ?_
  unfold wshrF at hF
  split at hF
  · rename_i x y s
    unfold wshrT at hF
    rcases bool_cases (decide (s ≥ 64)) with h0 | h0
    · rw [cond_t h0] at hF
      cases hF
      exact ⟨2000, [some true], _, wshrR1 x y s, ae_cons (hd_of (hc)) (ae_cons (h0) (ae_nil))⟩
    · rw [cond_f h0] at hF
      cases hF
      exact ⟨2000, [some false], _, wshrR2 x y s, ae_cons (hd_of (hc)) (ae_cons (hd_of (tl_of (hc))) (ae_cons (hd_of (tl_of (hc))) (ae_cons (h0) (ae_nil))))⟩
  · cases hF
theorem wminusR1 (x y x' y' : Int) : (runF Tryz.prog S5 Zl 2000 183 [.v (.agg [.int .u64 x, .int .u64 y]), .v (.agg [.int .u64 x', .int .u64 y'])] [] 0 []).map (fun r => (r.1, r.2.2.2)) = some (LV.v (V1.agg [At.int IntKind.u64 (u64 (x - x' - borrow y y' 0)), At.int IntKind.u64 (u64 (y - y' - 0))]), [(decide (0 ≤ x) && (decide (0 ≤ x') && (decide (x' < 18446744073709551616) && (decide (0 ≤ borrow y y' 0) && decide (borrow y y' 0 ≤ 1)))), true), (decide (0 ≤ y) && (decide (0 ≤ y') && (decide (y' < 18446744073709551616) && (decide (0 ≤ 0) && decide (0 ≤ 1)))), true)]) := by kernel_rfl
def wminusT (x y x' y' : Int) : Option (LV × List (Bool × Bool)) := some (LV.v (V1.agg [At.int IntKind.u64 (u64 (x - x' - borrow y y' 0)), At.int IntKind.u64 (u64 (y - y' - 0))]), [(decide (0 ≤ x) && (decide (0 ≤ x') && (decide (x' < 18446744073709551616) && (decide (0 ≤ borrow y y' 0) && decide (borrow y y' 0 ≤ 1)))), true), (decide (0 ≤ y) && (decide (0 ≤ y') && (decide (y' < 18446744073709551616) && (decide (0 ≤ 0) && decide (0 ≤ 1)))), true)])
def wminusF : List LV → Option (LV × List (Bool × Bool))
  | [.v (.agg [.int .u64 x, .int .u64 y]), .v (.agg [.int .u64 x', .int .u64 y'])] => wminusT x y x' y'
  | _ => none
theorem sumwminus : SumOK Tryz.prog 183 (pureSum wminusF) := by
  refine pureSum_run (z := Zl) sound5 (own_of sound5 Tryz.func183 (by kernel_rfl)) fun args v cs hF hc => ?_
  unfold wminusF at hF
  split at hF
  · rename_i x y x' y'
    unfold wminusT at hF
    cases hF
    exact ⟨2000, [], _, wminusR1 x y x' y', ae_cons (hd_of (hc)) (ae_cons (hd_of (tl_of (hc))) (ae_nil))⟩
  · cases hF
theorem wofR1 (a : Int) : (runF Tryz.prog S5 Zl 2000 181 [.v (.one (.int .i64 a))] [] 0 []).map (fun r => (r.1, r.2.2.2)) = some (LV.v (V1.agg [At.int IntKind.i64 (a / pow2 (min (Int.toNat 63) IntKind.i64.bits)), At.int IntKind.u64 (wr IntKind.u64 a)]), []) := by kernel_rfl
def wofT (a : Int) : Option (LV × List (Bool × Bool)) := some (LV.v (V1.agg [At.int IntKind.i64 (a / pow2 (min (Int.toNat 63) IntKind.i64.bits)), At.int IntKind.u64 (wr IntKind.u64 a)]), [])
def wofF : List LV → Option (LV × List (Bool × Bool))
  | [.v (.one (.int .i64 a))] => wofT a
  | _ => none
theorem sumwof : SumOK Tryz.prog 181 (pureSum wofF) := by
  refine pureSum_run (z := Zl) sound5 (own_of sound5 Tryz.func181 (by kernel_rfl)) fun args v cs hF hc => ?_
  unfold wofF at hF
  split at hF
  · rename_i a
    unfold wofT at hF
    cases hF
    exact ⟨2000, [], _, wofR1 a, ae_nil⟩
  · cases hF
theorem waddR1 (x y x' y' : Int) : (runF Tryz.prog S5 Zl 2000 125 [.v (.agg [.int .i64 x, .int .u64 y]), .v (.agg [.int .i64 x', .int .u64 y'])] [] 0 [some true, some true, some true, some true, some true, some true, some true, some true]).map (fun r => (r.1, r.2.2.2)) = some (LV.tup [V1.agg [At.int IntKind.i64 (wr IntKind.i64 (u64 (wr IntKind.u64 x + wr IntKind.u64 x' + (y + y' + 0) / 18446744073709551616))), At.int IntKind.u64 (u64 (y + y' + 0))], V1.one (At.bool true)], [(!decide (x < 0) == decide (x' < 0), true), (!decide (x < 0) == decide (x' < 0), true), (!decide (x < 0) == decide (x' < 0), true), (!decide (x < 0) == decide (x' < 0), true), (!decide (x < 0) == decide (x' < 0), true), (!decide (x < 0) == decide (x' < 0), true), (!decide (x < 0) == decide (x' < 0), true), (!decide (x < 0) == decide (x' < 0), true), (decide (0 ≤ wr IntKind.u64 x) && (decide (0 ≤ wr IntKind.u64 x') && (decide (0 ≤ (y + y' + 0) / 18446744073709551616) && decide ((y + y' + 0) / 18446744073709551616 ≤ 1))), true), (decide (0 ≤ y) && (decide (0 ≤ y') && (decide (0 ≤ 0) && decide (0 ≤ 1))), true)]) := by kernel_rfl
theorem waddR2 (x y x' y' : Int) : (runF Tryz.prog S5 Zl 2000 125 [.v (.agg [.int .i64 x, .int .u64 y]), .v (.agg [.int .i64 x', .int .u64 y'])] [] 0 [some false, some false, some false, some false, some false, some false, some false, some false]).map (fun r => (r.1, r.2.2.2)) = some (LV.tup [V1.agg [At.int IntKind.i64 (wr IntKind.i64 (u64 (wr IntKind.u64 x + wr IntKind.u64 x' + (y + y' + 0) / 18446744073709551616))), At.int IntKind.u64 (u64 (y + y' + 0))], V1.one (At.bool (decide (wr IntKind.i64 (u64 (wr IntKind.u64 x + wr IntKind.u64 x' + (y + y' + 0) / 18446744073709551616)) < 0) == decide (x < 0)))], [(!decide (x < 0) == decide (x' < 0), false), (!decide (x < 0) == decide (x' < 0), false), (!decide (x < 0) == decide (x' < 0), false), (!decide (x < 0) == decide (x' < 0), false), (!decide (x < 0) == decide (x' < 0), false), (!decide (x < 0) == decide (x' < 0), false), (!decide (x < 0) == decide (x' < 0), false), (!decide (x < 0) == decide (x' < 0), false), (decide (0 ≤ wr IntKind.u64 x) && (decide (0 ≤ wr IntKind.u64 x') && (decide (0 ≤ (y + y' + 0) / 18446744073709551616) && decide ((y + y' + 0) / 18446744073709551616 ≤ 1))), true), (decide (0 ≤ y) && (decide (0 ≤ y') && (decide (0 ≤ 0) && decide (0 ≤ 1))), true)]) := by kernel_rfl
def waddT (x y x' y' : Int) : Option (LV × List (Bool × Bool)) := 
  bif (!decide (x < 0) == decide (x' < 0)) then some (LV.tup [V1.agg [At.int IntKind.i64 (wr IntKind.i64 (u64 (wr IntKind.u64 x + wr IntKind.u64 x' + (y + y' + 0) / 18446744073709551616))), At.int IntKind.u64 (u64 (y + y' + 0))], V1.one (At.bool true)], [(decide (0 ≤ wr IntKind.u64 x) && (decide (0 ≤ wr IntKind.u64 x') && (decide (0 ≤ (y + y' + 0) / 18446744073709551616) && decide ((y + y' + 0) / 18446744073709551616 ≤ 1))), true), (decide (0 ≤ y) && (decide (0 ≤ y') && (decide (0 ≤ 0) && decide (0 ≤ 1))), true)])
  else some (LV.tup [V1.agg [At.int IntKind.i64 (wr IntKind.i64 (u64 (wr IntKind.u64 x + wr IntKind.u64 x' + (y + y' + 0) / 18446744073709551616))), At.int IntKind.u64 (u64 (y + y' + 0))], V1.one (At.bool (decide (wr IntKind.i64 (u64 (wr IntKind.u64 x + wr IntKind.u64 x' + (y + y' + 0) / 18446744073709551616)) < 0) == decide (x < 0)))], [(decide (0 ≤ wr IntKind.u64 x) && (decide (0 ≤ wr IntKind.u64 x') && (decide (0 ≤ (y + y' + 0) / 18446744073709551616) && decide ((y + y' + 0) / 18446744073709551616 ≤ 1))), true), (decide (0 ≤ y) && (decide (0 ≤ y') && (decide (0 ≤ 0) && decide (0 ≤ 1))), true)])
def waddF : List LV → Option (LV × List (Bool × Bool))
  | [.v (.agg [.int .i64 x, .int .u64 y]), .v (.agg [.int .i64 x', .int .u64 y'])] => waddT x y x' y'
  | _ => none
theorem sumwadd : SumOK Tryz.prog 125 (pureSum waddF) := by
  refine pureSum_run (z := Zl) sound5 (own_of sound5 Tryz.func125 (by kernel_rfl)) fun args v cs hF hc => ?_
  unfold waddF at hF
  split at hF
  · rename_i x y x' y'
    unfold waddT at hF
    rcases bool_cases (!decide (x < 0) == decide (x' < 0)) with h0 | h0
    · rw [cond_t h0] at hF
      cases hF
      exact ⟨2000, [some true, some true, some true, some true, some true, some true, some true, some true], _, waddR1 x y x' y', ae_cons (h0) (ae_cons (h0) (ae_cons (h0) (ae_cons (h0) (ae_cons (h0) (ae_cons (h0) (ae_cons (h0) (ae_cons (h0) (ae_cons (hd_of (hc)) (ae_cons (hd_of (tl_of (hc))) (ae_nil))))))))))⟩
    · rw [cond_f h0] at hF
      cases hF
      exact ⟨2000, [some false, some false, some false, some false, some false, some false, some false, some false], _, waddR2 x y x' y', ae_cons (h0) (ae_cons (h0) (ae_cons (h0) (ae_cons (h0) (ae_cons (h0) (ae_cons (h0) (ae_cons (h0) (ae_cons (h0) (ae_cons (hd_of (hc)) (ae_cons (hd_of (tl_of (hc))) (ae_nil))))))))))⟩
  · cases hF
end Go.Proofs.YthbkhoknlbomgaaGreat

/- wide: what the small functions come to, in numbers. -/
namespace Go.Proofs.YthbkhoknlbomgaaGreat
open Go.Lr
set_option linter.unusedVariables false
set_option linter.unusedSimpArgs false
def B1 (v : Int) : V1 := .agg [.int .u64 (wHi v), .int .u64 (wLo v)]
theorem agg2 {k k' : IntKind} {a a' b b' : Int} (cs : List (Bool × Bool)) (h1 : a = a') (h2 : b = b') :
    some (LV.v (V1.agg [At.int k a, At.int k' b]), cs) = some (LV.v (V1.agg [At.int k a', At.int k' b']), cs) := by subst h1; subst h2; rfl
theorem tup21 {k k' : IntKind} {a a' b b' : Int} {c c' : Bool} (cs : List (Bool × Bool)) (h1 : a = a') (h2 : b = b') (h3 : c = c') :
    some (LV.tup [V1.agg [At.int k a, At.int k' b], V1.one (At.bool c)], cs) = some (LV.tup [V1.agg [At.int k a', At.int k' b'], V1.one (At.bool c')], cs) := by subst h1; subst h2; subst h3; rfl
theorem tup11 {k : IntKind} {a a' : Int} {c c' : Bool} (cs : List (Bool × Bool)) (h1 : a = a') (h3 : c = c') :
    some (LV.tup [V1.one (At.int k a), V1.one (At.bool c)], cs) = some (LV.tup [V1.one (At.int k a'), V1.one (At.bool c')], cs) := by subst h1; subst h3; rfl
theorem oneB {c c' : Bool} (cs : List (Bool × Bool)) (h3 : c = c') :
    some (LV.v (V1.one (At.bool c)), cs) = some (LV.v (V1.one (At.bool c')), cs) := by subst h3; rfl
theorem min64 {s : Int} (h0 : 0 ≤ s) (h1 : s ≤ 64) : min s.toNat IntKind.u64.bits = s.toNat := by
  have : IntKind.u64.bits = 64 := rfl
  omega
theorem w64s {s : Int} (h0 : -1000 ≤ s) (h1 : s ≤ 1000) : wr .i64 s = s := w64_in (by omega) (by omega)
def shlS : List LV → Option (LV × List (Bool × Bool))
  | [.v (.agg [.int .u64 x, .int .u64 y]), .v (.one (.int .i64 s))] => some (.v (B1 (wVal x y * pow2 s.toNat % 340282366920938463463374607431768211456)), [(isU x, true), (isU y, true), (decide (0 ≤ s) && decide (s < 128), true)])
  | _ => none
theorem sumShl : SumOK Tryz.prog 128 (pureSum shlS) := by
  refine sumwshl.pure_re fun args v cs hF hc => ?_
  unfold shlS at hF
  split at hF
  · rename_i x y s
    cases hF
    simp only [all_tt, isU_iff, Bool.and_eq_true, decide_eq_true_eq] at hc
    obtain ⟨⟨hx0, hx1⟩, ⟨hy0, hy1⟩, ⟨hs0, hs1⟩, -⟩ := hc
    by_cases h : s ≥ 64
    · refine ⟨_, (cond_t (decide_eq_true h)).trans (agg2 _ ?_ ?_), ?_⟩
      · rw [w64s (by omega) (by omega), min64 (by omega) (by omega), wr_u]
        have hs : s.toNat = (s - 64).toNat + 64 := by omega
        rw [hs, pow2_add, pow2_64]
        generalize pow2 (s - 64).toNat = p
        unfold wHi wVal u64
        have e : (x * 18446744073709551616 + y) * (p * 18446744073709551616) = x * p * 340282366920938463463374607431768211456 + (y * p) * 18446744073709551616 := by grind
        rw [e]; generalize x * p = a; generalize y * p = b; omega
      · have hs : s.toNat = (s - 64).toNat + 64 := by omega
        rw [hs, pow2_add, pow2_64]
        generalize pow2 (s - 64).toNat = p
        unfold wLo wVal
        have e : (x * 18446744073709551616 + y) * (p * 18446744073709551616) = x * p * 340282366920938463463374607431768211456 + (y * p) * 18446744073709551616 := by grind
        rw [e]; generalize x * p = a; generalize y * p = b; omega
      · rw [w64s (by omega) (by omega)]; simp; omega
    · have hpq : pow2 s.toNat * pow2 (64 - s).toNat = 18446744073709551616 := by rw [← pow2_add, ← pow2_64]; congr 1; omega
      obtain ⟨g1, g2, g3, g4, g5, g6, g7, g8⟩ := shl_lt x y (pow2 s.toNat) (pow2 (64 - s).toNat) (pow2_pos _) (pow2_pos _) hpq hy0 hy1
      refine ⟨_, (cond_f (decide_eq_false h)).trans (agg2 _ ?_ ?_), ?_⟩
      · rw [w64s (by omega) (by omega), min64 (s := s) (by omega) (by omega), min64 (s := 64 - s) (by omega) (by omega), wr_u, g1, g3]
        exact (ior_add _ _ _ g8 g5 g6 g7).1
      · rw [min64 (s := s) (by omega) (by omega), wr_u, g2, g4]
      · rw [w64s (by omega) (by omega)]; simp; omega
  · cases hF
def shrS : List LV → Option (LV × List (Bool × Bool))
  | [.v (.agg [.int .u64 x, .int .u64 y]), .v (.one (.int .i64 s))] => some (.v (B1 (wVal x y / pow2 s.toNat)), [(isU x, true), (isU y, true), (decide (0 ≤ s) && decide (s < 128), true)])
  | _ => none
theorem sumShr : SumOK Tryz.prog 130 (pureSum shrS) := by
  refine sumwshr.pure_re fun args v cs hF hc => ?_
  unfold shrS at hF
  split at hF
  · rename_i x y s
    cases hF
    simp only [all_tt, isU_iff, Bool.and_eq_true, decide_eq_true_eq] at hc
    obtain ⟨⟨hx0, hx1⟩, ⟨hy0, hy1⟩, ⟨hs0, hs1⟩, -⟩ := hc
    by_cases h : s ≥ 64
    · have hs : s.toNat = 64 + (s - 64).toNat := by omega
      have e : wVal x y / pow2 s.toNat = x / pow2 (s - 64).toNat := by
        rw [hs, pow2_add, pow2_64, ← Int.ediv_ediv_of_nonneg (by omega)]
        congr 1; unfold wVal; omega
      have q0 : 0 ≤ x / pow2 (s - 64).toNat := Int.ediv_nonneg hx0 (Int.le_of_lt (pow2_pos _))
      have q1 : x / pow2 (s - 64).toNat ≤ x := Int.ediv_le_self _ hx0
      refine ⟨_, (cond_t (decide_eq_true h)).trans (agg2 _ ?_ ?_), ?_⟩
      · rw [e]; unfold wHi; omega
      · rw [w64s (by omega) (by omega), min64 (by omega) (by omega), e]; unfold wLo; omega
      · rw [w64s (by omega) (by omega)]; simp; omega
    · have hpq : pow2 s.toNat * pow2 (64 - s).toNat = 18446744073709551616 := by rw [← pow2_add, ← pow2_64]; congr 1; omega
      obtain ⟨g1, g2, g3, g5, g6, g7, g8⟩ := shr_lt x y (pow2 s.toNat) (pow2 (64 - s).toNat) (pow2_pos _) (pow2_pos _) hpq hy0 hy1
      refine ⟨_, (cond_f (decide_eq_false h)).trans (agg2 _ ?_ ?_), ?_⟩
      · rw [min64 (s := s) (by omega) (by omega), g1]
      · rw [w64s (by omega) (by omega), min64 (s := s) (by omega) (by omega), min64 (s := 64 - s) (by omega) (by omega), wr_u, g2, g3]
        exact (ior_add _ _ _ g8 g5 g6 g7).2
      · rw [w64s (by omega) (by omega)]; simp; omega
  · cases hF
def plusS : List LV → Option (LV × List (Bool × Bool))
  | [.v (.agg [.int .u64 x, .int .u64 y]), .v (.agg [.int .u64 x', .int .u64 y'])] => some (.v (B1 ((wVal x y + wVal x' y') % 340282366920938463463374607431768211456)), [(isU x, true), (isU y, true), (isU x', true), (isU y', true)])
  | _ => none
theorem sumPlus : SumOK Tryz.prog 127 (pureSum plusS) := by
  refine sumwplus.pure_re fun args v cs hF hc => ?_
  unfold plusS at hF
  split at hF
  · rename_i x y x' y'
    cases hF
    simp only [all_tt, isU_iff, Bool.and_eq_true, decide_eq_true_eq] at hc
    obtain ⟨⟨hx0, hx1⟩, ⟨hy0, hy1⟩, ⟨hx0', hx1'⟩, ⟨hy0', hy1'⟩, -⟩ := hc
    refine ⟨_, agg2 (a := u64 _) _ ?_ ?_, ?_⟩
    · unfold u64 wHi wVal; omega
    · unfold u64 wLo wVal; omega
    · simp; omega
  · cases hF
def minusS : List LV → Option (LV × List (Bool × Bool))
  | [.v (.agg [.int .u64 x, .int .u64 y]), .v (.agg [.int .u64 x', .int .u64 y'])] => some (.v (B1 ((wVal x y - wVal x' y') % 340282366920938463463374607431768211456)), [(isU x, true), (isU y, true), (isU x', true), (isU y', true)])
  | _ => none
theorem sumMinus : SumOK Tryz.prog 183 (pureSum minusS) := by
  refine sumwminus.pure_re fun args v cs hF hc => ?_
  unfold minusS at hF
  split at hF
  · rename_i x y x' y'
    cases hF
    simp only [all_tt, isU_iff, Bool.and_eq_true, decide_eq_true_eq] at hc
    obtain ⟨⟨hx0, hx1⟩, ⟨hy0, hy1⟩, ⟨hx0', hx1'⟩, ⟨hy0', hy1'⟩, -⟩ := hc
    have hb : borrow y y' 0 = if y < y' then 1 else 0 := by unfold borrow; simp
    refine ⟨_, agg2 (a := u64 _) _ ?_ ?_, ?_⟩
    · rw [hb]; unfold u64 wHi wVal; split <;> omega
    · unfold u64 wLo wVal; omega
    · rw [hb]; split <;> simp <;> omega
  · cases hF
def lessS : List LV → Option (LV × List (Bool × Bool))
  | [.v (.agg [.int .u64 x, .int .u64 y]), .v (.agg [.int .u64 x', .int .u64 y'])] => some (.v (.one (.bool (decide (wVal x y < wVal x' y')))), [(isU y, true), (isU y', true)])
  | _ => none
theorem sumLess : SumOK Tryz.prog 182 (pureSum lessS) := by
  refine sumwless.pure_re fun args v cs hF hc => ?_
  unfold lessS at hF
  split at hF
  · rename_i x y x' y'
    cases hF
    simp only [all_tt, isU_iff, Bool.and_eq_true, decide_eq_true_eq] at hc
    obtain ⟨⟨hy0, hy1⟩, ⟨hy0', hy1'⟩, -⟩ := hc
    by_cases h1 : x < x'
    · refine ⟨_, (cond_t (decide_eq_true h1)).trans (oneB _ ?_), ae_nil⟩
      symm; rw [decide_eq_true_eq]; unfold wVal; omega
    · by_cases h2 : x = x'
      · refine ⟨_, (cond_f (decide_eq_false h1)).trans ((cond_t (by simpa using h2)).trans (oneB _ ?_)), ae_nil⟩
        rw [decide_eq_decide]; subst h2; unfold wVal; omega
      · refine ⟨_, (cond_f (decide_eq_false h1)).trans ((cond_f (by simpa using h2)).trans (oneB _ ?_)), ae_nil⟩
        symm; rw [decide_eq_false_iff_not]; unfold wVal; omega
  · cases hF
def absS : List LV → Option (LV × List (Bool × Bool))
  | [.v (.agg [.int .i64 x, .int .u64 y])] => some (.tup [B1 (absV (wVal x y)), .one (.bool (decide (wVal x y < 0)))], [(isI x, true), (isU y, true)])
  | _ => none
theorem sumAbs : SumOK Tryz.prog 126 (pureSum absS) := by
  refine sumwabs.pure_re fun args v cs hF hc => ?_
  unfold absS at hF
  split at hF
  · rename_i x y
    cases hF
    simp only [all_tt, isU_iff, isI_iff, Bool.and_eq_true, decide_eq_true_eq] at hc
    obtain ⟨⟨hx0, hx1⟩, ⟨hy0, hy1⟩, -⟩ := hc
    by_cases h : x ≥ 0
    · have hn : ¬ wVal x y < 0 := by unfold wVal; omega
      refine ⟨_, (cond_t (decide_eq_true h)).trans (tup21 _ ?_ ?_ ?_), ae_nil⟩
      · rw [wr_u]; unfold absV; rw [if_neg hn]; unfold u64 wHi wVal; omega
      · unfold absV; rw [if_neg hn]; unfold wLo wVal; omega
      · simpa using hn
    · have hn : wVal x y < 0 := by unfold wVal; omega
      have hux : 0 ≤ u64 x ∧ u64 x < 18446744073709551616 := by unfold u64; omega
      refine ⟨_, (cond_f (decide_eq_false h)).trans (tup21 _ ?_ ?_ ?_), ?_⟩
      · simp only [wr_u]; rw [lnot y hy0 hy1, lnot (u64 x) hux.1 hux.2]; unfold absV; rw [if_pos hn]; unfold u64 wHi wVal; omega
      · rw [lnot y hy0 hy1]; unfold absV; rw [if_pos hn]; unfold u64 wLo wVal; omega
      · simpa using hn
      · rw [lnot y hy0 hy1]; simp; omega
  · cases hF
def sg64S : List LV → Option (LV × List (Bool × Bool))
  | [.v (.agg [.int .u64 x, .int .u64 y]), .v (.one (.bool neg))] => some (.tup [.one (.int .i64 (if isI (sgn neg (wVal x y)) = true then sgn neg (wVal x y) else 0)), .one (.bool (isI (sgn neg (wVal x y))))], [(isU x, true), (isU y, true)])
  | _ => none
theorem sumSg64 : SumOK Tryz.prog 129 (pureSum sg64S) := by
  refine sumsg64.pure_re fun args v cs hF hc => ?_
  unfold sg64S at hF
  split at hF
  · rename_i x y n
    cases hF
    simp only [all_tt, isU_iff, Bool.and_eq_true, decide_eq_true_eq] at hc
    obtain ⟨⟨hx0, hx1⟩, ⟨hy0, hy1⟩, -⟩ := hc
    show ∃ cs', sg64T x y n = _ ∧ _
    have hm : wr .i64 (wr .u64 (0 - y)) = w64 (-y) := by rw [wr_u, wr_i]; unfold w64 u64; omega
    by_cases h1 : x = 0
    · subst h1
      have hv : wVal 0 y = y := by unfold wVal; omega
      rw [hv]
      cases n with
      | false =>
        have hs : sgn false y = y := rfl
        rw [hs]
        by_cases h2 : y > 9223372036854775807
        · have hi : isI y = false := by unfold isI; simp; omega
          refine ⟨[], (cond_f rfl).trans ((cond_t rfl).trans ((cond_t (decide_eq_true h2)).trans (tup11 _ ?_ hi.symm))), ae_nil⟩
          rw [hi]; rfl
        · have hi : isI y = true := isI_iff.2 (by omega)
          refine ⟨[], (cond_f rfl).trans ((cond_t rfl).trans ((cond_f (decide_eq_false h2)).trans ((cond_f rfl).trans (tup11 _ ?_ hi.symm)))), ae_nil⟩
          rw [hi, if_pos rfl, wr_i]; unfold w64; omega
      | true =>
        have hs : sgn true y = -y := rfl
        rw [hs]
        by_cases h2 : y > 9223372036854775808
        · have hi : isI (-y) = false := by unfold isI; simp; omega
          refine ⟨[], (cond_f rfl).trans ((cond_f rfl).trans ((cond_t rfl).trans ((cond_t (decide_eq_true h2)).trans (tup11 _ ?_ hi.symm)))), ae_nil⟩
          rw [hi]; rfl
        · have hi : isI (-y) = true := isI_iff.2 (by omega)
          refine ⟨[], (cond_f rfl).trans ((cond_f rfl).trans ((cond_t rfl).trans ((cond_f (decide_eq_false h2)).trans (tup11 _ ?_ hi.symm)))), ae_nil⟩
          rw [hi, if_pos rfl, hm]; unfold w64; omega
    · have hi : isI (sgn n (wVal x y)) = false := by
        rw [← Bool.not_eq_true, isI_iff]
        cases n <;> unfold sgn wVal <;> simp <;> omega
      refine ⟨[], (cond_t (by simpa using h1)).trans (tup11 _ ?_ hi.symm), ae_nil⟩
      rw [hi]; rfl
  · cases hF
def ofS : List LV → Option (LV × List (Bool × Bool))
  | [.v (.one (.int .i64 a))] => some (.v (W1 a), [(isI a, true)])
  | _ => none
theorem sumOf : SumOK Tryz.prog 181 (pureSum ofS) := by
  refine sumwof.pure_re fun args v cs hF hc => ?_
  unfold ofS at hF
  split at hF
  · rename_i a
    cases hF
    simp only [all_tt, isU_iff, isI_iff, Bool.and_eq_true, decide_eq_true_eq] at hc
    obtain ⟨⟨hx0, hx1⟩, -⟩ := hc
    refine ⟨_, agg2 (a := a / _) _ ?_ ?_, ae_nil⟩
    · rw [pow2_63i]; unfold wHi; omega
    · rfl
  · cases hF
def addS : List LV → Option (LV × List (Bool × Bool))
  | [.v (.agg [.int .i64 x, .int .u64 y]), .v (.agg [.int .i64 x', .int .u64 y'])] =>
    some (.tup [.agg [.int .i64 (w64 (wHi (wVal x y + wVal x' y'))), .int .u64 (wLo (wVal x y + wVal x' y'))], .one (.bool (isW (wVal x y + wVal x' y')))], [(isI x, true), (isU y, true), (isI x', true), (isU y', true)])
  | _ => none
theorem sumAdd1 : SumOK Tryz.prog 125 (pureSum addS) := by
  refine sumwadd.pure_re fun args v cs hF hc => ?_
  unfold addS at hF
  split at hF
  · rename_i x y x' y'
    cases hF
    simp only [all_tt, isU_iff, isI_iff, Bool.and_eq_true, decide_eq_true_eq] at hc
    obtain ⟨⟨hx0, hx1⟩, ⟨hy0, hy1⟩, ⟨hx0', hx1'⟩, ⟨hy0', hy1'⟩, -⟩ := hc
    have e1 : w64 (u64 (u64 x + u64 x' + (y + y' + 0) / 18446744073709551616)) = w64 (wHi (wVal x y + wVal x' y')) := by unfold w64 u64 wHi wVal; omega
    have e2 : u64 (y + y' + 0) = wLo (wVal x y + wVal x' y') := by unfold u64 wLo wVal; omega
    have e3 : 0 ≤ u64 x ∧ 0 ≤ u64 x' := by unfold u64; omega
    by_cases h : (!decide (x < 0) == decide (x' < 0)) = true
    · have h' : ¬ (x < 0 ↔ x' < 0) := by
        by_cases a : x < 0 <;> by_cases b : x' < 0 <;> simp [a, b] at h ⊢
      refine ⟨_, (cond_t h).trans (tup21 _ e1 e2 ?_), ?_⟩
      · symm; rw [isW_iff]; unfold wVal; omega
      · refine ae_cons ?_ (ae_cons ?_ ae_nil) <;> simp only [Bool.and_eq_true, decide_eq_true_eq] <;> (try simp only [wr_u]) <;> omega
    · have h' : (x < 0 ↔ x' < 0) := by
        by_cases a : x < 0 <;> by_cases b : x' < 0 <;> simp [a, b] at h ⊢
      refine ⟨_, (cond_f (by simpa using h)).trans (tup21 _ e1 e2 ?_), ?_⟩
      · rw [Bool.eq_iff_iff, isW_iff, beq_iff_eq, decide_eq_decide]
        show (w64 (u64 (u64 x + u64 x' + (y + y' + 0) / 18446744073709551616)) < 0 ↔ _) ↔ _
        rw [e1]
        unfold w64 wHi wVal; omega
      · refine ae_cons ?_ (ae_cons ?_ ae_nil) <;> simp only [Bool.and_eq_true, decide_eq_true_eq] <;> (try simp only [wr_u]) <;> omega
  · cases hF
def S6 : FuncId → Option SumK := more (more (more (more (more (more (more (more (more (S5) 128 (pureSum shlS)) 130 (pureSum shrS)) 127 (pureSum plusS)) 183 (pureSum minusS)) 182 (pureSum lessS)) 126 (pureSum absS)) 129 (pureSum sg64S)) 181 (pureSum ofS)) 125 (pureSum addS)
theorem sound6 : Sound Tryz.prog S6 := (((((((((sound5).more sumShl).more sumShr).more sumPlus).more sumMinus).more sumLess).more sumAbs).more sumSg64).more sumOf).more sumAdd1
end Go.Proofs.YthbkhoknlbomgaaGreat
