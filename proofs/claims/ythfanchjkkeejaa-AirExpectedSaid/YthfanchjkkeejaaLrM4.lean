/- Joined texts. What each part proves stands ahead of it; no condition. -/
import Derived.Test.YthfanchjkkeejaaLrM3
import Derived.WalkKit
import Derived.ProofKit
import Derived.OpenShut
import Derived.WideKeyArr2
import Derived.Test.YthfanchjkkeejaaLrM1

/- The local evaluator: summaries of functions that are handed two slices of numbers. -/
namespace Go.Lr
open Go.RowKit

section
variable {P : Program} {S : FuncId → Option SumK} {z : Md}

/-- A slice's argument: of a block, or nil. -/
def SlArg (es : Nat) (g : Nat → Option Blk) (s : LV) (bs : List Nat) (xs : List Int) : Prop :=
  (∃ b k cs, slB s = some b ∧ bs = [b] ∧ g b = some k ∧ slInts es s k = some (xs, cs) ∧ ∀ c ∈ cs, c.1 = c.2) ∨ (s = .v (.one .nilsl) ∧ bs = [] ∧ xs = [])

theorem shape1' {es : Nat} {xs : List Int} {g : Nat → Option Blk} {rest : List LV} {rdB : List Blk} {bl : List Nat} {cs0 : List (Bool × Bool)} (h1 : rdA rest = some bl) (h2 : liveAll g bl = some rdB) (h3 : avA es rest rdB = some ([.ints xs], cs0)) (h4 : ∀ c ∈ cs0, c.1 = c.2) :
    ∃ s, rest = [s] ∧ SlArg es g s bl xs := by
  obtain ⟨-, h⟩ := shape1 (es := es) (xs := xs) (g := g) [] rest rdB bl cs0 h1 h2 h3 h4
  rcases h with ⟨s, b, k, cs, e, h⟩ | ⟨e, h⟩
  · exact ⟨s, e, .inl ⟨b, k, cs, h⟩⟩
  · refine ⟨_, e, .inr ⟨rfl, ?_, h⟩⟩
    rw [e] at h1
    cases h1
    rfl

theorem shape2 {es : Nat} {xs ys : List Int} {g : Nat → Option Blk} : ∀ (pre : List LV) (rest : List LV) (rdB : List Blk) (bl : List Nat) (cs0 : List (Bool × Bool)), rdA rest = some bl → liveAll g bl = some rdB → avA es rest rdB = some (pre.map AV.pl ++ [.ints xs, .ints ys], cs0) → (∀ c ∈ cs0, c.1 = c.2) →
  plainVs pre = true ∧ ∃ s1 s2 b1 b2, rest = pre ++ [s1, s2] ∧ bl = b1 ++ b2 ∧ SlArg es g s1 b1 xs ∧ SlArg es g s2 b2 ys := by
  intro pre
  induction pre with
  | nil =>
    intro rest rdB bl cs0 h1 h2 h3 h4
    refine ⟨rfl, ?_⟩
    cases rest with
    | nil => simp [avA] at h3
    | cons s rest =>
      simp only [avA, List.map_nil, List.nil_append] at h3
      split at h3
      · rename_i b hsl
        simp only [rdA, hsl] at h1
        split at h1
        · rename_i r hr1
          cases h1
          obtain ⟨k, r', hk, hr', rfl⟩ := liveAll_cons h2
          simp only at h3
          split at h3
          · rename_i xs' cs1 hx
            split at h3
            · rename_i r2 cs2 hav
              simp only [Option.some.injEq, Prod.mk.injEq, List.cons.injEq, AV.ints.injEq] at h3
              obtain ⟨⟨rfl, hnil⟩, hcs⟩ := h3
              subst hnil
              subst hcs
              obtain ⟨s2, rfl, h⟩ := shape1' hr1 hr' hav fun c hcm => h4 c (List.mem_append_right _ hcm)
              exact ⟨s, s2, [b], r, rfl, rfl, .inl ⟨b, k, cs1, hsl, rfl, hk, hx, fun c hcm => h4 c (List.mem_append_left _ hcm)⟩, h⟩
            · cases h3
          · cases h3
        · cases h1
      · rename_i hsl
        split at h3
        · rename_i hnil
          split at h3
          · rename_i r2 cs2 hav
            simp only [Option.some.injEq, Prod.mk.injEq, List.cons.injEq, AV.ints.injEq] at h3
            obtain ⟨⟨hx, hn2⟩, hcs⟩ := h3
            subst hn2
            simp only [rdA, hsl] at h1
            split at h1
            · obtain ⟨s2, rfl, h⟩ := shape1' h1 h2 hav fun c hcm => h4 c (by rw [← hcs]; exact hcm)
              refine ⟨s, s2, [], bl, rfl, rfl, .inr ⟨?_, rfl, hx.symm⟩, h⟩
              unfold isNilS at hnil
              split at hnil
              · rfl
              · cases hnil
            · cases h1
          · cases h3
        · split at h3 <;> simp at h3
  | cons q pre ih =>
    intro rest rdB bl cs0 h1 h2 h3 h4
    cases rest with
    | nil => simp [avA] at h3
    | cons s rest =>
      simp only [avA, List.map_cons, List.cons_append] at h3
      split at h3
      · rename_i b hsl
        (repeat' split at h3) <;> simp at h3
      · rename_i hsl
        split at h3
        · (repeat' split at h3) <;> simp at h3
        · split at h3
          · rename_i r2 cs2 hav
            simp only [Option.some.injEq, Prod.mk.injEq, List.cons.injEq, AV.pl.injEq] at h3
            obtain ⟨⟨rfl, hr2⟩, rfl⟩ := h3
            simp only [rdA, hsl] at h1
            split at h1
            · rename_i hq
              rw [hr2] at hav
              obtain ⟨i1, s1, s2, b1, b2, i2, i3⟩ := ih rest rdB bl cs2 h1 h2 hav h4
              exact ⟨by simp only [plainVs, hq, i1], s1, s2, b1, b2, by rw [i2]; rfl, i3⟩
            · cases h1
          · cases h3

theorem get3 {kc k1 k2 q : Blk} {i : Nat} (hq : getM [(0, kc), (1, k1), (2, k2)] i = some q) : (i = 0 ∧ q = kc) ∨ (i = 1 ∧ q = k1) ∨ (i = 2 ∧ q = k2) := by
  rw [getM_cons] at hq
  by_cases hi : i = 0
  · subst hi; rw [if_pos rfl] at hq; cases hq; exact .inl ⟨rfl, rfl⟩
  · rw [if_neg hi, getM_cons] at hq
    by_cases hi1 : i = 1
    · subst hi1; rw [if_pos rfl] at hq; cases hq; exact .inr (.inl ⟨rfl, rfl⟩)
    · rw [if_neg hi1, getM_cons] at hq
      by_cases hi2 : i = 2
      · subst hi2; rw [if_pos rfl] at hq; cases hq; exact .inr (.inr ⟨rfl, rfl⟩)
      · rw [if_neg hi2] at hq; simp [getM] at hq
theorem rel3 {E E1 : Env} {g : Nat → Option Blk} {w : World} {c b1 b2 : Nat} {kc k1 k2 : Blk} (hrel : Rel E g w) (hkc : g c = some kc) (hk1 : g b1 = some k1) (hk2 : g b2 = some k2) (h01 : c ≠ b1) (h02 : c ≠ b2) (h12 : b1 ≠ b2)
    (o0 : okL noP kc.cells = true) (o1 : okL noP k1.cells = true) (o2 : okL noP k2.cells = true) (h0 : E1 0 = E c) (h1 : E1 1 = E b1) (h2 : E1 2 = E b2) : Rel E1 (getM [(0, kc), (1, k1), (2, k2)]) w := by
  refine ⟨fun i q hq => ?_, fun i j hi hj he => ?_⟩
  · rcases get3 hq with ⟨rfl, rfl⟩ | ⟨rfl, rfl⟩ | ⟨rfl, rfl⟩
    · exact blkAt_ren o0 h0 (hrel.blk c _ hkc)
    · exact blkAt_ren o1 h1 (hrel.blk b1 _ hk1)
    · exact blkAt_ren o2 h2 (hrel.blk b2 _ hk2)
  · have i01 : ∀ {a b}, (g a).isSome → (g b).isSome → a ≠ b → (E a).1 ≠ (E b).1 := fun ha hb hn e => hn (hrel.inj _ _ ha hb e)
    have sc : (g c).isSome := by rw [hkc]; rfl
    have s1 : (g b1).isSome := by rw [hk1]; rfl
    have s2 : (g b2).isSome := by rw [hk2]; rfl
    obtain ⟨qi, hqi⟩ := Option.isSome_iff_exists.1 hi
    obtain ⟨qj, hqj⟩ := Option.isSome_iff_exists.1 hj
    rcases get3 hqi with ⟨rfl, -⟩ | ⟨rfl, -⟩ | ⟨rfl, -⟩ <;> rcases get3 hqj with ⟨rfl, -⟩ | ⟨rfl, -⟩ | ⟨rfl, -⟩
    · rfl
    · rw [h0, h1] at he; exact absurd he (i01 sc s1 h01)
    · rw [h0, h2] at he; exact absurd he (i01 sc s2 h02)
    · rw [h0, h1] at he; exact absurd he.symm (i01 sc s1 h01)
    · rfl
    · rw [h1, h2] at he; exact absurd he (i01 s1 s2 h12)
    · rw [h0, h2] at he; exact absurd he.symm (i01 sc s2 h02)
    · rw [h1, h2] at he; exact absurd he.symm (i01 s1 s2 h12)
    · rfl

/-- Three numbers' worth of a map. -/
def ren3 (a b c : Nat) : Nat → Nat
  | 0 => a
  | 1 => b
  | _ => c

def NIL : LV := .v (.one .nilsl)
def SLX (b o n c : Nat) : LV := .v (.one (.slx b o n c))

/-- What must be shown of a function with two slices, handed last. -/
structure Two (P : Program) (f : FuncId) (ty : TypeId) (es : Nat) (pre : List LV) (xs ys : List Int) (hb h' : Bool) (v : LV) : Prop where
  two : ∀ (k1 : Blk) (o1 n1 c1 : Nat) (k2 : Blk) (o2 n2 c2 : Nat), SlAt es k1 o1 n1 xs → SlAt es k2 o2 n2 ys → ∀ (E : Env) (w : World), Rel E (getM [(0, flag ty hb), (1, k1), (2, k2)]) w →
    Calls P f ((A0 :: (pre ++ [SLX 1 o1 n1 c1, SLX 2 o2 n2 c2])).map (LV.den E)).toArray w fun e w' => e = .returned (v.den E0) ∧ Lcl E [(0, flag ty hb), (1, k1), (2, k2)] [(0, flag ty h'), (1, k1), (2, k2)] w w'
  one : ∀ (k : Blk) (o1 n1 c1 : Nat) (o2 n2 c2 : Nat), SlAt es k o1 n1 xs → SlAt es k o2 n2 ys → ∀ (E : Env) (w : World), Rel E (getM [(0, flag ty hb), (1, k)]) w →
    Calls P f ((A0 :: (pre ++ [SLX 1 o1 n1 c1, SLX 1 o2 n2 c2])).map (LV.den E)).toArray w fun e w' => e = .returned (v.den E0) ∧ Lcl E [(0, flag ty hb), (1, k)] [(0, flag ty h'), (1, k)] w w'
  right : xs = [] → ∀ (k : Blk) (o n c : Nat), SlAt es k o n ys → ∀ (E : Env) (w : World), Rel E (getM [(0, flag ty hb), (1, k)]) w →
    Calls P f ((A0 :: (pre ++ [NIL, SLX 1 o n c])).map (LV.den E)).toArray w fun e w' => e = .returned (v.den E0) ∧ Lcl E [(0, flag ty hb), (1, k)] [(0, flag ty h'), (1, k)] w w'
  left : ys = [] → ∀ (k : Blk) (o n c : Nat), SlAt es k o n xs → ∀ (E : Env) (w : World), Rel E (getM [(0, flag ty hb), (1, k)]) w →
    Calls P f ((A0 :: (pre ++ [SLX 1 o n c, NIL])).map (LV.den E)).toArray w fun e w' => e = .returned (v.den E0) ∧ Lcl E [(0, flag ty hb), (1, k)] [(0, flag ty h'), (1, k)] w w'
  none : xs = [] → ys = [] → ∀ (E : Env) (w : World), Rel E (getM [(0, flag ty hb)]) w →
    Calls P f ((A0 :: (pre ++ [NIL, NIL])).map (LV.den E)).toArray w fun e w' => e = .returned (v.den E0) ∧ Lcl E [(0, flag ty hb)] [(0, flag ty h')] w w'

theorem acSum2_ok {f : FuncId} (ho : Own P f) {ty : TypeId} {es : Nat} {F : List AV → Bool → Option (LV × Bool × List (Bool × Bool))}
    (hF1 : ∀ avs hb r, F avs hb = some r → ∃ (pre : List LV) (xs ys : List Int), avs = pre.map AV.pl ++ [.ints xs, .ints ys])
    (h : ∀ (pre : List LV) (xs ys : List Int) (hb : Bool) (v : LV) (h' : Bool) (cs : List (Bool × Bool)), F (pre.map AV.pl ++ [.ints xs, .ints ys]) hb = some (v, h', cs) → (∀ c ∈ cs, c.1 = c.2) → plainVs pre = true → v.ok noP = true →
      Two P f ty es pre xs ys hb h' v) : SumOK P f (acSum ty es F) := by
  intro args t g nb p rdB wrB ans ws E w hs hr hw _ hgo hz hc hrel hg hargs hn
  unfold acSum at hs
  split at hs
  · rename_i c rest
    split at hs
    · rename_i bl hbl
      split at hs
      · rename_i hmem
        cases hs
        simp only at hgo hw hr
        split at hgo
        · rename_i t' hb
          split at hgo
          · rename_i hty
            rw [nbeq] at hty
            have hty' : t' = ty := by simpa using hty
            subst hty'
            split at hgo
            · rename_i avs cs0 has
              split at hgo
              · rename_i v h' cs hF
                split at hgo
                · rename_i hv
                  cases hgo
                  obtain ⟨kc, r', hkc, hr', hrr⟩ := liveAll_cons hw
                  cases liveAll_nil hr'
                  cases hrr
                  simp only [zipW] at hz
                  cases hz
                  simp only at hc ⊢
                  have hc0 : ∀ c ∈ cs0, c.1 = c.2 := fun c hcm => hc c (List.mem_append_left _ hcm)
                  have hc1 : ∀ c ∈ cs, c.1 = c.2 := fun c hcm => hc c (List.mem_append_right _ hcm)
                  obtain ⟨pre, xs, ys, rfl⟩ := hF1 _ _ _ hF
                  obtain ⟨hp, s1, s2, b1, b2, rfl, rfl, hs1, hs2⟩ := shape2 (es := es) (xs := xs) (ys := ys) (g := g) pre rest rdB bl cs0 hbl hr has hc0
                  have H := h pre xs ys hb v h' cs hF hc1 hp hv
                  have hpre := plainVs_iff.1 hp
                  have hf0 : (⟨t', (0, 0), 0, [.bool hb]⟩ : Blk) = flag t' hb := rfl
                  rw [hf0] at hkc
                  have hnc : ∀ b ∈ b1 ++ b2, c ≠ b := fun b hbm e => by
                    subst e
                    have := memB_false hmem
                    exact this hbm
                  rcases hs1 with ⟨d1, k1, q1, e1, rfl, hk1, hi1, hq1⟩ | ⟨rfl, rfl, rfl⟩ <;> rcases hs2 with ⟨d2, k2, q2, e2, rfl, hk2, hi2, hq2⟩ | ⟨rfl, rfl, rfl⟩
                  · obtain ⟨o1, n1, cc1, hsa1, -, hden1⟩ := slInts_loc hi1 hq1 e1 (hrel.blk d1 k1 hk1)
                    obtain ⟨o2, n2, cc2, hsa2, -, hden2⟩ := slInts_loc hi2 hq2 e2 (hrel.blk d2 k2 hk2)
                    have hc1 : c ≠ d1 := hnc d1 (by simp)
                    have hc2 : c ≠ d2 := hnc d2 (by simp)
                    by_cases hd : d1 = d2
                    · subst hd
                      rw [hk1] at hk2
                      cases hk2
                      generalize hE1 : (fun i => E (ren2 c d1 i)) = E1
                      have hE : ∀ i, E1 i = E (ren2 c d1 i) := fun i => by rw [← hE1]
                      have hcl := H.one k1 o1 n1 cc1 o2 n2 cc2 hsa1 hsa2 E1 w (rel2 hrel hkc hk1 hc1 rfl hsa1.2.2 (hE 0) (hE 1))
                      refine call_up ho hE hrel hkc rfl rfl (fun i q hq => ?_) (fun i q h0 hq => ?_) (fun i q hq => ?_) ?_ hv hcl
                      · rcases get2 hq with ⟨rfl, rfl⟩ | ⟨rfl, rfl⟩
                        · exact hkc
                        · exact hk1
                      · rw [getM_cons, if_neg h0] at hq ⊢; exact hq
                      · rcases get2 hq with ⟨rfl, rfl⟩ | ⟨rfl, rfl⟩
                        · rfl
                        · exact hsa1.2.2
                      · simp only [List.map_cons, List.map_append, List.map_nil]
                        rw [hden1 E1 1 (hE 1), hden2 E1 1 (hE 1), denL_noP hpre, denL_noP (E := E1) hpre]
                        congr 1
                        show LV.den E (.v (.one (.ptr c 0))) = LV.den E1 (.v (.one (.ptr 0 0)))
                        simp only [LV.den, V1.den, At.den, hE, ren2]
                    · generalize hE1 : (fun i => E (ren3 c d1 d2 i)) = E1
                      have hE : ∀ i, E1 i = E (ren3 c d1 d2 i) := fun i => by rw [← hE1]
                      have hcl := H.two k1 o1 n1 cc1 k2 o2 n2 cc2 hsa1 hsa2 E1 w (rel3 hrel hkc hk1 hk2 hc1 hc2 hd rfl hsa1.2.2 hsa2.2.2 (hE 0) (hE 1) (hE 2))
                      refine call_up ho hE hrel hkc rfl rfl (fun i q hq => ?_) (fun i q h0 hq => ?_) (fun i q hq => ?_) ?_ hv hcl
                      · rcases get3 hq with ⟨rfl, rfl⟩ | ⟨rfl, rfl⟩ | ⟨rfl, rfl⟩
                        · exact hkc
                        · exact hk1
                        · exact hk2
                      · rw [getM_cons, if_neg h0] at hq ⊢; exact hq
                      · rcases get3 hq with ⟨rfl, rfl⟩ | ⟨rfl, rfl⟩ | ⟨rfl, rfl⟩
                        · rfl
                        · exact hsa1.2.2
                        · exact hsa2.2.2
                      · simp only [List.map_cons, List.map_append, List.map_nil]
                        rw [hden1 E1 1 (hE 1), hden2 E1 2 (hE 2), denL_noP hpre, denL_noP (E := E1) hpre]
                        congr 1
                        show LV.den E (.v (.one (.ptr c 0))) = LV.den E1 (.v (.one (.ptr 0 0)))
                        simp only [LV.den, V1.den, At.den, hE, ren3]
                  · obtain ⟨o1, n1, cc1, hsa1, -, hden1⟩ := slInts_loc hi1 hq1 e1 (hrel.blk d1 k1 hk1)
                    have hc1 : c ≠ d1 := hnc d1 (by simp)
                    generalize hE1 : (fun i => E (ren2 c d1 i)) = E1
                    have hE : ∀ i, E1 i = E (ren2 c d1 i) := fun i => by rw [← hE1]
                    have hcl := H.left rfl k1 o1 n1 cc1 hsa1 E1 w (rel2 hrel hkc hk1 hc1 rfl hsa1.2.2 (hE 0) (hE 1))
                    refine call_up ho hE hrel hkc rfl rfl (fun i q hq => ?_) (fun i q h0 hq => ?_) (fun i q hq => ?_) ?_ hv hcl
                    · rcases get2 hq with ⟨rfl, rfl⟩ | ⟨rfl, rfl⟩
                      · exact hkc
                      · exact hk1
                    · rw [getM_cons, if_neg h0] at hq ⊢; exact hq
                    · rcases get2 hq with ⟨rfl, rfl⟩ | ⟨rfl, rfl⟩
                      · rfl
                      · exact hsa1.2.2
                    · simp only [List.map_cons, List.map_append, List.map_nil]
                      rw [hden1 E1 1 (hE 1), denL_noP hpre, denL_noP (E := E1) hpre]
                      congr 1
                      show LV.den E (.v (.one (.ptr c 0))) = LV.den E1 (.v (.one (.ptr 0 0)))
                      simp only [LV.den, V1.den, At.den, hE, ren2]
                  · obtain ⟨o1, n1, cc1, hsa1, -, hden1⟩ := slInts_loc hi2 hq2 e2 (hrel.blk d2 k2 hk2)
                    have hc1 : c ≠ d2 := hnc d2 (by simp)
                    generalize hE1 : (fun i => E (ren2 c d2 i)) = E1
                    have hE : ∀ i, E1 i = E (ren2 c d2 i) := fun i => by rw [← hE1]
                    have hcl := H.right rfl k2 o1 n1 cc1 hsa1 E1 w (rel2 hrel hkc hk2 hc1 rfl hsa1.2.2 (hE 0) (hE 1))
                    refine call_up ho hE hrel hkc rfl rfl (fun i q hq => ?_) (fun i q h0 hq => ?_) (fun i q hq => ?_) ?_ hv hcl
                    · rcases get2 hq with ⟨rfl, rfl⟩ | ⟨rfl, rfl⟩
                      · exact hkc
                      · exact hk2
                    · rw [getM_cons, if_neg h0] at hq ⊢; exact hq
                    · rcases get2 hq with ⟨rfl, rfl⟩ | ⟨rfl, rfl⟩
                      · rfl
                      · exact hsa1.2.2
                    · simp only [List.map_cons, List.map_append, List.map_nil]
                      rw [hden1 E1 1 (hE 1), denL_noP hpre, denL_noP (E := E1) hpre]
                      congr 1
                      show LV.den E (.v (.one (.ptr c 0))) = LV.den E1 (.v (.one (.ptr 0 0)))
                      simp only [LV.den, V1.den, At.den, hE, ren2]
                  · generalize hE1 : (fun _ : Nat => E c) = E1
                    have hE : ∀ i, E1 i = E ((fun _ => c) i) := fun i => by rw [← hE1]
                    have hcl := H.none rfl rfl E1 w (rel1 hrel hkc rfl (hE 0))
                    refine call_up ho hE hrel hkc rfl rfl (fun i q hq => ?_) (fun i q h0 hq => ?_) (fun i q hq => ?_) ?_ hv hcl
                    · obtain ⟨rfl, rfl⟩ := get1 hq; exact hkc
                    · exact absurd (get1 hq).1 h0
                    · obtain ⟨rfl, rfl⟩ := get1 hq; rfl
                    · simp only [List.map_cons, List.map_append, List.map_nil]
                      rw [denL_noP hpre, denL_noP (E := E1) hpre]
                      congr 1
                      show LV.den E (.v (.one (.ptr c 0))) = LV.den E1 (.v (.one (.ptr 0 0)))
                      simp only [LV.den, V1.den, At.den, hE]
                · cases hgo
              · cases hgo
            · cases hgo
          · cases hgo
        · cases hgo
      · cases hs
    · cases hs
  · cases hs

end
end Go.Lr

/- fx.Dot: its walk, round by round. -/
namespace Go.Proofs.Ythfanchjkkeejaa
open Go.Lr
set_option linter.unusedVariables false
set_option linter.unusedSimpArgs false

theorem dot_two_a (dead : Nat → Value) (hb : Bool) (s : Int) (oa na ca ob nn cb : Nat) (ty : TypeId) (fr : Nat × Nat) (es : Nat) (l : List At) (ty2 : TypeId) (fr2 : Nat × Nat) (es2 : Nat) (l2 : List At) : projS [0,1,2,3,9] [0,1,2,3] (execL Try.prog S18 Zl 400 (spineL 3 (bodyF Try.prog 55)) (Kst.st ⟨argsL 0 [A0, I s, SLX 1 oa na ca, SLX 2 ob nn cb], [(0, flag 27 hb), (1, ⟨ty, fr, es, l⟩), (2, ⟨ty2, fr2, es2, l2⟩)], 3⟩ 53 dead [some false, some false, some false, some false])) = some (Ex.normal, [LV.v (V1.one (At.ptr 0 0)), LV.v (V1.one (At.int IntKind.i64 s)), LV.v (V1.one (At.slx 1 oa na ca)), LV.v (V1.one (At.slx 2 ob nn cb)), LV.v (V1.one (At.ptr 3 0))], [some { ty := 27, fr := (0, 0), es := 0, cells := [At.bool hb] }, some { ty := ty, fr := fr, es := es, cells := l }, some { ty := ty2, fr := fr2, es := es2, cells := l2 }, some { ty := 133, fr := (0, 0), es := 0, cells := [At.int IntKind.i64 0, At.int IntKind.u64 0] }], [(decide (s > 120), false), (decide (s < 0), false), (decide (s < 0), false), (decide (s < 0), false)]) := by kernel_rfl
theorem dot_two_b (dead : Nat → Value) (hb : Bool) (s : Int) (oa na ca ob nn cb : Nat) (ty : TypeId) (fr : Nat × Nat) (es : Nat) (l : List At) (ty2 : TypeId) (fr2 : Nat × Nat) (es2 : Nat) (l2 : List At) (x y : Int) : projS [0,1,2,3,9,25,26] [0,1,2,3] (exec Try.prog S18 Zl 400 (.code (c1 (c1 (c2 (c2 (c2 (bodyF Try.prog 55))))))) (Kst.st ⟨[(0, A0), (1, I s), (2, SLX 1 oa na ca), (3, SLX 2 ob nn cb), (9, .v (.one (.ptr 3 0)))], [(0, flag 27 hb), (1, ⟨ty, fr, es, l⟩), (2, ⟨ty2, fr2, es2, l2⟩), (3, ⟨133, (0,0), 0, [.int .i64 x, .int .u64 y]⟩)], 4⟩ 53 dead [])) = some (Ex.normal, [LV.v (V1.one (At.ptr 0 0)), LV.v (V1.one (At.int IntKind.i64 s)), LV.v (V1.one (At.slx 1 oa na ca)), LV.v (V1.one (At.slx 2 ob nn cb)), LV.v (V1.one (At.ptr 3 0)), LV.v (V1.one (At.int IntKind.i64 (if 100 < if (nn : Int) < (na : Int) then (nn : Int) else (na : Int) then 100 else if (nn : Int) < (na : Int) then (nn : Int) else (na : Int)))), LV.v (V1.one (At.int IntKind.i64 0))], [some { ty := 27, fr := (0, 0), es := 0, cells := [At.bool hb] }, some { ty := ty, fr := fr, es := es, cells := l }, some { ty := ty2, fr := fr2, es := es2, cells := l2 }, some { ty := 133, fr := (0, 0), es := 0, cells := [At.int IntKind.i64 x, At.int IntKind.u64 y] }], []) := by kernel_rfl
theorem dot_two_c (dead : Nat → Value) (hb : Bool) (s : Int) (oa na ca ob nn cb : Nat) (ty : TypeId) (fr : Nat × Nat) (es : Nat) (l : List At) (ty2 : TypeId) (fr2 : Nat × Nat) (es2 : Nat) (l2 : List At) (x y : Int) (mm i : Int) : projS [0,1,2,3,9,25,26] [0,1,2,3] (exec Try.prog S18 Zl 400 (.code (c1 (c1 (c2 (c1 (c2 (c2 (c2 (bodyF Try.prog 55))))))))) (Kst.st ⟨[(0, A0), (1, I s), (2, SLX 1 oa na ca), (3, SLX 2 ob nn cb), (9, .v (.one (.ptr 3 0))), (25, I mm), (26, I i)], [(0, flag 27 hb), (1, ⟨ty, fr, es, l⟩), (2, ⟨ty2, fr2, es2, l2⟩), (3, ⟨133, (0,0), 0, [.int .i64 x, .int .u64 y]⟩)], 4⟩ 53 dead [some true])) = some (Ex.normal, [LV.v (V1.one (At.ptr 0 0)), LV.v (V1.one (At.int IntKind.i64 s)), LV.v (V1.one (At.slx 1 oa na ca)), LV.v (V1.one (At.slx 2 ob nn cb)), LV.v (V1.one (At.ptr 3 0)), LV.v (V1.one (At.int IntKind.i64 mm)), LV.v (V1.one (At.int IntKind.i64 (wr IntKind.i64 (i + 1))))], [some { ty := 27, fr := (0, 0), es := 0, cells := [At.bool (hb || satH (intAt l (oa + i.toNat * 1)) || satH (intAt l2 (ob + i.toNat * 1)))] }, some { ty := ty, fr := fr, es := es, cells := l }, some { ty := ty2, fr := fr2, es := es2, cells := l2 }, some { ty := 133, fr := (0, 0), es := 0, cells := [At.int IntKind.i64 (wHi (wVal x y + wVal (wHi (satV (intAt l (oa + i.toNat * 1)) * satV (intAt l2 (ob + i.toNat * 1)))) (wLo (satV (intAt l (oa + i.toNat * 1)) * satV (intAt l2 (ob + i.toNat * 1)))))), At.int IntKind.u64 (wLo (wVal x y + wVal (wHi (satV (intAt l (oa + i.toNat * 1)) * satV (intAt l2 (ob + i.toNat * 1)))) (wLo (satV (intAt l (oa + i.toNat * 1)) * satV (intAt l2 (ob + i.toNat * 1))))))] }], [(isI x, true), (isU y, true), (isI (wHi (satV (intAt l (oa + i.toNat * 1)) * satV (intAt l2 (ob + i.toNat * 1)))), true), (isU (wLo (satV (intAt l (oa + i.toNat * 1)) * satV (intAt l2 (ob + i.toNat * 1)))), true), (isW (wVal x y + wVal (wHi (satV (intAt l (oa + i.toNat * 1)) * satV (intAt l2 (ob + i.toNat * 1)))) (wLo (satV (intAt l (oa + i.toNat * 1)) * satV (intAt l2 (ob + i.toNat * 1))))), true), (isI (satV (intAt l (oa + i.toNat * 1))), true), (isI (satV (intAt l2 (ob + i.toNat * 1))), true), (isIntAt IntKind.i64 l2 (ob + i.toNat * 1), true), (decide (0 ≤ i) && decide (i < (nn : Int)), true), (isIntAt IntKind.i64 l (oa + i.toNat * 1), true), (decide (0 ≤ i) && decide (i < (na : Int)), true), (decide (i < mm), true)]) := by kernel_rfl
theorem dot_two_d (dead : Nat → Value) (hb : Bool) (s : Int) (oa na ca ob nn cb : Nat) (ty : TypeId) (fr : Nat × Nat) (es : Nat) (l : List At) (ty2 : TypeId) (fr2 : Nat × Nat) (es2 : Nat) (l2 : List At) (x y : Int) (mm i : Int) : projS [0,1,9] [0,1,2,3] (exec Try.prog S18 Zl 400 (.code (c1 (c1 (c2 (c1 (c2 (c2 (c2 (bodyF Try.prog 55))))))))) (Kst.st ⟨[(0, A0), (1, I s), (2, SLX 1 oa na ca), (3, SLX 2 ob nn cb), (9, .v (.one (.ptr 3 0))), (25, I mm), (26, I i)], [(0, flag 27 hb), (1, ⟨ty, fr, es, l⟩), (2, ⟨ty2, fr2, es2, l2⟩), (3, ⟨133, (0,0), 0, [.int .i64 x, .int .u64 y]⟩)], 4⟩ 53 dead [some false])) = some (Ex.exit 0, [LV.v (V1.one (At.ptr 0 0)), LV.v (V1.one (At.int IntKind.i64 s)), LV.v (V1.one (At.ptr 3 0))], [some { ty := 27, fr := (0, 0), es := 0, cells := [At.bool hb] }, some { ty := ty, fr := fr, es := es, cells := l }, some { ty := ty2, fr := fr2, es := es2, cells := l2 }, some { ty := 133, fr := (0, 0), es := 0, cells := [At.int IntKind.i64 x, At.int IntKind.u64 y] }], [(decide (i < mm), false)]) := by kernel_rfl
theorem dot_two_e (dead : Nat → Value) (hb : Bool) (s : Int) (oa na ca ob nn cb : Nat) (ty : TypeId) (fr : Nat × Nat) (es : Nat) (l : List At) (ty2 : TypeId) (fr2 : Nat × Nat) (es2 : Nat) (l2 : List At) (x y : Int) : projS [8] [0,1,2] (exec Try.prog S18 Zl 400 (.code (c2 (c2 (c2 (c2 (bodyF Try.prog 55)))))) (Kst.st ⟨[(0, A0), (1, I s), (9, .v (.one (.ptr 3 0)))], [(0, flag 27 hb), (1, ⟨ty, fr, es, l⟩), (2, ⟨ty2, fr2, es2, l2⟩), (3, ⟨133, (0,0), 0, [.int .i64 x, .int .u64 y]⟩)], 4⟩ 53 dead [])) = some (Ex.ret, [LV.v (V1.one (At.int IntKind.i64 (rndS (wVal x y) s)))], [some { ty := 27, fr := (0, 0), es := 0, cells := [At.bool (hb || rndH (wVal x y) s)] }, some { ty := ty, fr := fr, es := es, cells := l }, some { ty := ty2, fr := fr2, es := es2, cells := l2 }], [(isI x, true), (isU y, true)]) := by kernel_rfl
theorem dot_one_a (dead : Nat → Value) (hb : Bool) (s : Int) (oa na ca ob nn cb : Nat) (ty : TypeId) (fr : Nat × Nat) (es : Nat) (l : List At) : projS [0,1,2,3,9] [0,1,3] (execL Try.prog S18 Zl 400 (spineL 3 (bodyF Try.prog 55)) (Kst.st ⟨argsL 0 [A0, I s, SLX 1 oa na ca, SLX 1 ob nn cb], [(0, flag 27 hb), (1, ⟨ty, fr, es, l⟩)], 3⟩ 53 dead [some false, some false, some false, some false])) = some (Ex.normal, [LV.v (V1.one (At.ptr 0 0)), LV.v (V1.one (At.int IntKind.i64 s)), LV.v (V1.one (At.slx 1 oa na ca)), LV.v (V1.one (At.slx 1 ob nn cb)), LV.v (V1.one (At.ptr 3 0))], [some { ty := 27, fr := (0, 0), es := 0, cells := [At.bool hb] }, some { ty := ty, fr := fr, es := es, cells := l }, some { ty := 133, fr := (0, 0), es := 0, cells := [At.int IntKind.i64 0, At.int IntKind.u64 0] }], [(decide (s > 120), false), (decide (s < 0), false), (decide (s < 0), false), (decide (s < 0), false)]) := by kernel_rfl
theorem dot_one_b (dead : Nat → Value) (hb : Bool) (s : Int) (oa na ca ob nn cb : Nat) (ty : TypeId) (fr : Nat × Nat) (es : Nat) (l : List At) (x y : Int) : projS [0,1,2,3,9,25,26] [0,1,3] (exec Try.prog S18 Zl 400 (.code (c1 (c1 (c2 (c2 (c2 (bodyF Try.prog 55))))))) (Kst.st ⟨[(0, A0), (1, I s), (2, SLX 1 oa na ca), (3, SLX 1 ob nn cb), (9, .v (.one (.ptr 3 0)))], [(0, flag 27 hb), (1, ⟨ty, fr, es, l⟩), (3, ⟨133, (0,0), 0, [.int .i64 x, .int .u64 y]⟩)], 4⟩ 53 dead [])) = some (Ex.normal, [LV.v (V1.one (At.ptr 0 0)), LV.v (V1.one (At.int IntKind.i64 s)), LV.v (V1.one (At.slx 1 oa na ca)), LV.v (V1.one (At.slx 1 ob nn cb)), LV.v (V1.one (At.ptr 3 0)), LV.v (V1.one (At.int IntKind.i64 (if 100 < if (nn : Int) < (na : Int) then (nn : Int) else (na : Int) then 100 else if (nn : Int) < (na : Int) then (nn : Int) else (na : Int)))), LV.v (V1.one (At.int IntKind.i64 0))], [some { ty := 27, fr := (0, 0), es := 0, cells := [At.bool hb] }, some { ty := ty, fr := fr, es := es, cells := l }, some { ty := 133, fr := (0, 0), es := 0, cells := [At.int IntKind.i64 x, At.int IntKind.u64 y] }], []) := by kernel_rfl
theorem dot_one_c (dead : Nat → Value) (hb : Bool) (s : Int) (oa na ca ob nn cb : Nat) (ty : TypeId) (fr : Nat × Nat) (es : Nat) (l : List At) (x y : Int) (mm i : Int) : projS [0,1,2,3,9,25,26] [0,1,3] (exec Try.prog S18 Zl 400 (.code (c1 (c1 (c2 (c1 (c2 (c2 (c2 (bodyF Try.prog 55))))))))) (Kst.st ⟨[(0, A0), (1, I s), (2, SLX 1 oa na ca), (3, SLX 1 ob nn cb), (9, .v (.one (.ptr 3 0))), (25, I mm), (26, I i)], [(0, flag 27 hb), (1, ⟨ty, fr, es, l⟩), (3, ⟨133, (0,0), 0, [.int .i64 x, .int .u64 y]⟩)], 4⟩ 53 dead [some true])) = some (Ex.normal, [LV.v (V1.one (At.ptr 0 0)), LV.v (V1.one (At.int IntKind.i64 s)), LV.v (V1.one (At.slx 1 oa na ca)), LV.v (V1.one (At.slx 1 ob nn cb)), LV.v (V1.one (At.ptr 3 0)), LV.v (V1.one (At.int IntKind.i64 mm)), LV.v (V1.one (At.int IntKind.i64 (wr IntKind.i64 (i + 1))))], [some { ty := 27, fr := (0, 0), es := 0, cells := [At.bool (hb || satH (intAt l (oa + i.toNat * 1)) || satH (intAt l (ob + i.toNat * 1)))] }, some { ty := ty, fr := fr, es := es, cells := l }, some { ty := 133, fr := (0, 0), es := 0, cells := [At.int IntKind.i64 (wHi (wVal x y + wVal (wHi (satV (intAt l (oa + i.toNat * 1)) * satV (intAt l (ob + i.toNat * 1)))) (wLo (satV (intAt l (oa + i.toNat * 1)) * satV (intAt l (ob + i.toNat * 1)))))), At.int IntKind.u64 (wLo (wVal x y + wVal (wHi (satV (intAt l (oa + i.toNat * 1)) * satV (intAt l (ob + i.toNat * 1)))) (wLo (satV (intAt l (oa + i.toNat * 1)) * satV (intAt l (ob + i.toNat * 1))))))] }], [(isI x, true), (isU y, true), (isI (wHi (satV (intAt l (oa + i.toNat * 1)) * satV (intAt l (ob + i.toNat * 1)))), true), (isU (wLo (satV (intAt l (oa + i.toNat * 1)) * satV (intAt l (ob + i.toNat * 1)))), true), (isW (wVal x y + wVal (wHi (satV (intAt l (oa + i.toNat * 1)) * satV (intAt l (ob + i.toNat * 1)))) (wLo (satV (intAt l (oa + i.toNat * 1)) * satV (intAt l (ob + i.toNat * 1))))), true), (isI (satV (intAt l (oa + i.toNat * 1))), true), (isI (satV (intAt l (ob + i.toNat * 1))), true), (isIntAt IntKind.i64 l (ob + i.toNat * 1), true), (decide (0 ≤ i) && decide (i < (nn : Int)), true), (isIntAt IntKind.i64 l (oa + i.toNat * 1), true), (decide (0 ≤ i) && decide (i < (na : Int)), true), (decide (i < mm), true)]) := by kernel_rfl
theorem dot_one_d (dead : Nat → Value) (hb : Bool) (s : Int) (oa na ca ob nn cb : Nat) (ty : TypeId) (fr : Nat × Nat) (es : Nat) (l : List At) (x y : Int) (mm i : Int) : projS [0,1,9] [0,1,3] (exec Try.prog S18 Zl 400 (.code (c1 (c1 (c2 (c1 (c2 (c2 (c2 (bodyF Try.prog 55))))))))) (Kst.st ⟨[(0, A0), (1, I s), (2, SLX 1 oa na ca), (3, SLX 1 ob nn cb), (9, .v (.one (.ptr 3 0))), (25, I mm), (26, I i)], [(0, flag 27 hb), (1, ⟨ty, fr, es, l⟩), (3, ⟨133, (0,0), 0, [.int .i64 x, .int .u64 y]⟩)], 4⟩ 53 dead [some false])) = some (Ex.exit 0, [LV.v (V1.one (At.ptr 0 0)), LV.v (V1.one (At.int IntKind.i64 s)), LV.v (V1.one (At.ptr 3 0))], [some { ty := 27, fr := (0, 0), es := 0, cells := [At.bool hb] }, some { ty := ty, fr := fr, es := es, cells := l }, some { ty := 133, fr := (0, 0), es := 0, cells := [At.int IntKind.i64 x, At.int IntKind.u64 y] }], [(decide (i < mm), false)]) := by kernel_rfl
theorem dot_one_e (dead : Nat → Value) (hb : Bool) (s : Int) (oa na ca ob nn cb : Nat) (ty : TypeId) (fr : Nat × Nat) (es : Nat) (l : List At) (x y : Int) : projS [8] [0,1] (exec Try.prog S18 Zl 400 (.code (c2 (c2 (c2 (c2 (bodyF Try.prog 55)))))) (Kst.st ⟨[(0, A0), (1, I s), (9, .v (.one (.ptr 3 0)))], [(0, flag 27 hb), (1, ⟨ty, fr, es, l⟩), (3, ⟨133, (0,0), 0, [.int .i64 x, .int .u64 y]⟩)], 4⟩ 53 dead [])) = some (Ex.ret, [LV.v (V1.one (At.int IntKind.i64 (rndS (wVal x y) s)))], [some { ty := 27, fr := (0, 0), es := 0, cells := [At.bool (hb || rndH (wVal x y) s)] }, some { ty := ty, fr := fr, es := es, cells := l }], [(isI x, true), (isU y, true)]) := by kernel_rfl
theorem dn_two_neg (hb : Bool) (s : Int) (oa na ca ob nn cb : Nat) (ty : TypeId) (fr : Nat × Nat) (es : Nat) (l : List At) (ty2 : TypeId) (fr2 : Nat × Nat) (es2 : Nat) (l2 : List At) : (runF Try.prog S18 Zl 2000 55 [A0, I s, SLX 1 oa na ca, SLX 2 ob nn cb] [(0, flag 27 hb), (1, ⟨ty, fr, es, l⟩), (2, ⟨ty2, fr2, es2, l2⟩)] 3 [some true, some true, some true, none]).map (fun r => (r.1, getM r.2.1 0, getM r.2.1 1, getM r.2.1 2, r.2.2.2)) = some (LV.v (V1.one (At.int IntKind.i64 (rndS (wVal 0 0) s))), some { ty := 27, fr := (0, 0), es := 0, cells := [At.bool (hb || rndH (wVal 0 0) s)] }, some { ty := ty, fr := fr, es := es, cells := l }, some { ty := ty2, fr := fr2, es := es2, cells := l2 }, [(isI 0, true), (isU 0, true), (decide (s < 0), true), (decide (s < 0), true), (decide (s < 0), true)]) := by kernel_rfl
theorem dn_two_big (hb : Bool) (s : Int) (oa na ca ob nn cb : Nat) (ty : TypeId) (fr : Nat × Nat) (es : Nat) (l : List At) (ty2 : TypeId) (fr2 : Nat × Nat) (es2 : Nat) (l2 : List At) : (runF Try.prog S18 Zl 2000 55 [A0, I s, SLX 1 oa na ca, SLX 2 ob nn cb] [(0, flag 27 hb), (1, ⟨ty, fr, es, l⟩), (2, ⟨ty2, fr2, es2, l2⟩)] 3 [some false, some false, some false, some true]).map (fun r => (r.1, getM r.2.1 0, getM r.2.1 1, getM r.2.1 2, r.2.2.2)) = some (LV.v (V1.one (At.int IntKind.i64 (rndS (wVal 0 0) s))), some { ty := 27, fr := (0, 0), es := 0, cells := [At.bool (hb || rndH (wVal 0 0) s)] }, some { ty := ty, fr := fr, es := es, cells := l }, some { ty := ty2, fr := fr2, es := es2, cells := l2 }, [(isI 0, true), (isU 0, true), (decide (s > 120), true), (decide (s < 0), false), (decide (s < 0), false), (decide (s < 0), false)]) := by kernel_rfl
theorem dn_one_neg (hb : Bool) (s : Int) (oa na ca ob nn cb : Nat) (ty : TypeId) (fr : Nat × Nat) (es : Nat) (l : List At) (ty2 : TypeId) (fr2 : Nat × Nat) (es2 : Nat) (l2 : List At) : (runF Try.prog S18 Zl 2000 55 [A0, I s, SLX 1 oa na ca, SLX 1 ob nn cb] [(0, flag 27 hb), (1, ⟨ty, fr, es, l⟩)] 3 [some true, some true, some true, none]).map (fun r => (r.1, getM r.2.1 0, getM r.2.1 1, getM r.2.1 2, r.2.2.2)) = some (LV.v (V1.one (At.int IntKind.i64 (rndS (wVal 0 0) s))), some { ty := 27, fr := (0, 0), es := 0, cells := [At.bool (hb || rndH (wVal 0 0) s)] }, some { ty := ty, fr := fr, es := es, cells := l }, none, [(isI 0, true), (isU 0, true), (decide (s < 0), true), (decide (s < 0), true), (decide (s < 0), true)]) := by kernel_rfl
theorem dn_one_big (hb : Bool) (s : Int) (oa na ca ob nn cb : Nat) (ty : TypeId) (fr : Nat × Nat) (es : Nat) (l : List At) (ty2 : TypeId) (fr2 : Nat × Nat) (es2 : Nat) (l2 : List At) : (runF Try.prog S18 Zl 2000 55 [A0, I s, SLX 1 oa na ca, SLX 1 ob nn cb] [(0, flag 27 hb), (1, ⟨ty, fr, es, l⟩)] 3 [some false, some false, some false, some true]).map (fun r => (r.1, getM r.2.1 0, getM r.2.1 1, getM r.2.1 2, r.2.2.2)) = some (LV.v (V1.one (At.int IntKind.i64 (rndS (wVal 0 0) s))), some { ty := 27, fr := (0, 0), es := 0, cells := [At.bool (hb || rndH (wVal 0 0) s)] }, some { ty := ty, fr := fr, es := es, cells := l }, none, [(isI 0, true), (isU 0, true), (decide (s > 120), true), (decide (s < 0), false), (decide (s < 0), false), (decide (s < 0), false)]) := by kernel_rfl
theorem dn_left_neg (hb : Bool) (s : Int) (oa na ca ob nn cb : Nat) (ty : TypeId) (fr : Nat × Nat) (es : Nat) (l : List At) (ty2 : TypeId) (fr2 : Nat × Nat) (es2 : Nat) (l2 : List At) : (runF Try.prog S18 Zl 2000 55 [A0, I s, SLX 1 oa na ca, NIL] [(0, flag 27 hb), (1, ⟨ty, fr, es, l⟩)] 2 [some true, some true, some true, none]).map (fun r => (r.1, getM r.2.1 0, getM r.2.1 1, getM r.2.1 2, r.2.2.2)) = some (LV.v (V1.one (At.int IntKind.i64 (rndS (wVal 0 0) s))), some { ty := 27, fr := (0, 0), es := 0, cells := [At.bool (hb || rndH (wVal 0 0) s)] }, some { ty := ty, fr := fr, es := es, cells := l }, none, [(isI 0, true), (isU 0, true), (decide (s < 0), true), (decide (s < 0), true), (decide (s < 0), true)]) := by kernel_rfl
theorem dn_left_big (hb : Bool) (s : Int) (oa na ca ob nn cb : Nat) (ty : TypeId) (fr : Nat × Nat) (es : Nat) (l : List At) (ty2 : TypeId) (fr2 : Nat × Nat) (es2 : Nat) (l2 : List At) : (runF Try.prog S18 Zl 2000 55 [A0, I s, SLX 1 oa na ca, NIL] [(0, flag 27 hb), (1, ⟨ty, fr, es, l⟩)] 2 [some false, some false, some false, some true]).map (fun r => (r.1, getM r.2.1 0, getM r.2.1 1, getM r.2.1 2, r.2.2.2)) = some (LV.v (V1.one (At.int IntKind.i64 (rndS (wVal 0 0) s))), some { ty := 27, fr := (0, 0), es := 0, cells := [At.bool (hb || rndH (wVal 0 0) s)] }, some { ty := ty, fr := fr, es := es, cells := l }, none, [(isI 0, true), (isU 0, true), (decide (s > 120), true), (decide (s < 0), false), (decide (s < 0), false), (decide (s < 0), false)]) := by kernel_rfl
theorem dn_left_in (hb : Bool) (s : Int) (oa na ca ob nn cb : Nat) (ty : TypeId) (fr : Nat × Nat) (es : Nat) (l : List At) (ty2 : TypeId) (fr2 : Nat × Nat) (es2 : Nat) (l2 : List At) : (runF Try.prog S18 Zl 2000 55 [A0, I s, SLX 1 oa na ca, NIL] [(0, flag 27 hb), (1, ⟨ty, fr, es, l⟩)] 2 [some false, some false, some false, some false, some false]).map (fun r => (r.1, getM r.2.1 0, getM r.2.1 1, getM r.2.1 2, r.2.2.2)) = some (LV.v (V1.one (At.int IntKind.i64 (rndS (wVal 0 0) s))), some { ty := 27, fr := (0, 0), es := 0, cells := [At.bool (hb || rndH (wVal 0 0) s)] }, some { ty := ty, fr := fr, es := es, cells := l }, some { ty := 133, fr := (0, 0), es := 0, cells := [At.int IntKind.i64 0, At.int IntKind.u64 0] }, [(isI 0, true), (isU 0, true), (decide (0 < if 100 < if 0 < (na : Int) then 0 else (na : Int) then 100 else if 0 < (na : Int) then 0 else (na : Int)), false), (decide (s > 120), false), (decide (s < 0), false), (decide (s < 0), false), (decide (s < 0), false)]) := by kernel_rfl
theorem dn_right_neg (hb : Bool) (s : Int) (oa na ca ob nn cb : Nat) (ty : TypeId) (fr : Nat × Nat) (es : Nat) (l : List At) (ty2 : TypeId) (fr2 : Nat × Nat) (es2 : Nat) (l2 : List At) : (runF Try.prog S18 Zl 2000 55 [A0, I s, NIL, SLX 1 ob nn cb] [(0, flag 27 hb), (1, ⟨ty, fr, es, l⟩)] 2 [some true, some true, some true, none]).map (fun r => (r.1, getM r.2.1 0, getM r.2.1 1, getM r.2.1 2, r.2.2.2)) = some (LV.v (V1.one (At.int IntKind.i64 (rndS (wVal 0 0) s))), some { ty := 27, fr := (0, 0), es := 0, cells := [At.bool (hb || rndH (wVal 0 0) s)] }, some { ty := ty, fr := fr, es := es, cells := l }, none, [(isI 0, true), (isU 0, true), (decide (s < 0), true), (decide (s < 0), true), (decide (s < 0), true)]) := by kernel_rfl
theorem dn_right_big (hb : Bool) (s : Int) (oa na ca ob nn cb : Nat) (ty : TypeId) (fr : Nat × Nat) (es : Nat) (l : List At) (ty2 : TypeId) (fr2 : Nat × Nat) (es2 : Nat) (l2 : List At) : (runF Try.prog S18 Zl 2000 55 [A0, I s, NIL, SLX 1 ob nn cb] [(0, flag 27 hb), (1, ⟨ty, fr, es, l⟩)] 2 [some false, some false, some false, some true]).map (fun r => (r.1, getM r.2.1 0, getM r.2.1 1, getM r.2.1 2, r.2.2.2)) = some (LV.v (V1.one (At.int IntKind.i64 (rndS (wVal 0 0) s))), some { ty := 27, fr := (0, 0), es := 0, cells := [At.bool (hb || rndH (wVal 0 0) s)] }, some { ty := ty, fr := fr, es := es, cells := l }, none, [(isI 0, true), (isU 0, true), (decide (s > 120), true), (decide (s < 0), false), (decide (s < 0), false), (decide (s < 0), false)]) := by kernel_rfl
theorem dn_right_in (hb : Bool) (s : Int) (oa na ca ob nn cb : Nat) (ty : TypeId) (fr : Nat × Nat) (es : Nat) (l : List At) (ty2 : TypeId) (fr2 : Nat × Nat) (es2 : Nat) (l2 : List At) : (runF Try.prog S18 Zl 2000 55 [A0, I s, NIL, SLX 1 ob nn cb] [(0, flag 27 hb), (1, ⟨ty, fr, es, l⟩)] 2 [some false, some false, some false, some false, some false]).map (fun r => (r.1, getM r.2.1 0, getM r.2.1 1, getM r.2.1 2, r.2.2.2)) = some (LV.v (V1.one (At.int IntKind.i64 (rndS (wVal 0 0) s))), some { ty := 27, fr := (0, 0), es := 0, cells := [At.bool (hb || rndH (wVal 0 0) s)] }, some { ty := ty, fr := fr, es := es, cells := l }, some { ty := 133, fr := (0, 0), es := 0, cells := [At.int IntKind.i64 0, At.int IntKind.u64 0] }, [(isI 0, true), (isU 0, true), (decide (0 < if 100 < if (nn : Int) < 0 then (nn : Int) else 0 then 100 else if (nn : Int) < 0 then (nn : Int) else 0), false), (decide (s > 120), false), (decide (s < 0), false), (decide (s < 0), false), (decide (s < 0), false)]) := by kernel_rfl
theorem dn_none_neg (hb : Bool) (s : Int) (oa na ca ob nn cb : Nat) (ty : TypeId) (fr : Nat × Nat) (es : Nat) (l : List At) (ty2 : TypeId) (fr2 : Nat × Nat) (es2 : Nat) (l2 : List At) : (runF Try.prog S18 Zl 2000 55 [A0, I s, NIL, NIL] [(0, flag 27 hb)] 1 [some true, some true, some true, none]).map (fun r => (r.1, getM r.2.1 0, getM r.2.1 1, getM r.2.1 2, r.2.2.2)) = some (LV.v (V1.one (At.int IntKind.i64 (rndS (wVal 0 0) s))), some { ty := 27, fr := (0, 0), es := 0, cells := [At.bool (hb || rndH (wVal 0 0) s)] }, none, none, [(isI 0, true), (isU 0, true), (decide (s < 0), true), (decide (s < 0), true), (decide (s < 0), true)]) := by kernel_rfl
theorem dn_none_big (hb : Bool) (s : Int) (oa na ca ob nn cb : Nat) (ty : TypeId) (fr : Nat × Nat) (es : Nat) (l : List At) (ty2 : TypeId) (fr2 : Nat × Nat) (es2 : Nat) (l2 : List At) : (runF Try.prog S18 Zl 2000 55 [A0, I s, NIL, NIL] [(0, flag 27 hb)] 1 [some false, some false, some false, some true]).map (fun r => (r.1, getM r.2.1 0, getM r.2.1 1, getM r.2.1 2, r.2.2.2)) = some (LV.v (V1.one (At.int IntKind.i64 (rndS (wVal 0 0) s))), some { ty := 27, fr := (0, 0), es := 0, cells := [At.bool (hb || rndH (wVal 0 0) s)] }, none, none, [(isI 0, true), (isU 0, true), (decide (s > 120), true), (decide (s < 0), false), (decide (s < 0), false), (decide (s < 0), false)]) := by kernel_rfl
theorem dn_none_in (hb : Bool) (s : Int) (oa na ca ob nn cb : Nat) (ty : TypeId) (fr : Nat × Nat) (es : Nat) (l : List At) (ty2 : TypeId) (fr2 : Nat × Nat) (es2 : Nat) (l2 : List At) : (runF Try.prog S18 Zl 2000 55 [A0, I s, NIL, NIL] [(0, flag 27 hb)] 1 [some false, some false, some false, some false, some false]).map (fun r => (r.1, getM r.2.1 0, getM r.2.1 1, getM r.2.1 2, r.2.2.2)) = some (LV.v (V1.one (At.int IntKind.i64 (rndS (wVal 0 0) s))), some { ty := 27, fr := (0, 0), es := 0, cells := [At.bool (hb || rndH (wVal 0 0) s)] }, some { ty := 133, fr := (0, 0), es := 0, cells := [At.int IntKind.i64 0, At.int IntKind.u64 0] }, none, [(isI 0, true), (isU 0, true), (decide (0 < if 100 < if 0 < 0 then 0 else 0 then 100 else if 0 < 0 then 0 else 0), false), (decide (s > 120), false), (decide (s < 0), false), (decide (s < 0), false), (decide (s < 0), false)]) := by kernel_rfl

/-- The products' sum; is one of the numbers out of bounds? -/
def dotS : List Int → List Int → Int
  | a :: l, b :: m => satV a * satV b + dotS l m
  | _, _ => 0
def dotFl : List Int → List Int → Bool
  | a :: l, b :: m => satH a || (satH b || dotFl l m)
  | _, _ => false
theorem dotS_nilr (l : List Int) : dotS l [] = 0 := by cases l <;> rfl
theorem dotFl_nilr (l : List Int) : dotFl l [] = false := by cases l <;> rfl
theorem dotS_app : ∀ (l m : List Int) (a b : Int), l.length = m.length → dotS (l ++ [a]) (m ++ [b]) = dotS l m + satV a * satV b
  | [], [], a, b, _ => by simp [dotS]
  | x :: l, y :: m, a, b, h => by
    have := dotS_app l m a b (by simpa using h)
    simp only [List.cons_append, dotS, this]; omega
theorem dotFl_app : ∀ (l m : List Int) (a b : Int), l.length = m.length → dotFl (l ++ [a]) (m ++ [b]) = (dotFl l m || (satH a || satH b))
  | [], [], a, b, _ => by simp [dotFl]
  | x :: l, y :: m, a, b, h => by
    have := dotFl_app l m a b (by simpa using h)
    simp only [List.cons_append, dotFl, this, Bool.or_assoc]
theorem dot_min : ∀ (xs ys : List Int) (n k : Nat), n ≤ k → (n = k ∨ xs.length ≤ n ∨ ys.length ≤ n) → dotS (xs.take n) (ys.take n) = dotS (xs.take k) (ys.take k) ∧ dotFl (xs.take n) (ys.take n) = dotFl (xs.take k) (ys.take k)
  | [], ys, n, k, _, _ => by simp [dotS, dotFl]
  | x :: xs, [], n, k, _, _ => by simp [dotS_nilr, dotFl_nilr]
  | x :: xs, y :: ys, 0, k, _, h => by
    have : k = 0 := by simp at h; omega
    subst this; exact ⟨rfl, rfl⟩
  | x :: xs, y :: ys, n + 1, 0, h, _ => by omega
  | x :: xs, y :: ys, n + 1, k + 1, h, h' => by
    have := dot_min xs ys n k (by omega) (by simp at h'; omega)
    refine ⟨?_, ?_⟩ <;> simp only [List.take_succ_cons, dotS, dotFl, this.1, this.2]
theorem dotS_bd : ∀ (l m : List Int), -(l.length * 1329227995784915872903807060280344576 : Int) ≤ dotS l m ∧ dotS l m ≤ l.length * 1329227995784915872903807060280344576
  | [], m => by simp [dotS]
  | a :: l, [] => by
    rw [dotS_nilr]
    have : (0 : Int) ≤ ((a :: l).length : Int) * 1329227995784915872903807060280344576 := Int.mul_nonneg (by omega) (by decide)
    omega
  | a :: l, b :: m => by
    have h1 := dotS_bd l m
    have h2 := satsat a b
    simp only [dotS, List.length_cons]
    push_cast
    omega
theorem dot_bds {D p : Int} {i m : Nat} (hi : i < m) (hm : m ≤ 100) (b0 : -((i : Int) * 1329227995784915872903807060280344576) ≤ D ∧ D ≤ i * 1329227995784915872903807060280344576) (b1 : -1329227995784915872903807060280344576 ≤ p ∧ p ≤ 1329227995784915872903807060280344576) :
    (-170141183460469231731687303715884105728 ≤ D ∧ D < 170141183460469231731687303715884105728) ∧ (-170141183460469231731687303715884105728 ≤ p ∧ p < 170141183460469231731687303715884105728) ∧ (-170141183460469231731687303715884105728 ≤ D + p ∧ D + p < 170141183460469231731687303715884105728) := by omega
theorem dot_bdn {D : Int} {n k : Nat} (b0 : -(((min 100 n : Nat) : Int) * 1329227995784915872903807060280344576) ≤ D ∧ D ≤ ((min 100 n : Nat) : Int) * 1329227995784915872903807060280344576) :
    -170141183460469231731687303715884105728 ≤ D ∧ D < 170141183460469231731687303715884105728 := by omega

def dotV (s : Int) (xs ys : List Int) : Int := rndS (dotS (xs.take 100) (ys.take 100)) s
def dotH (s : Int) (xs ys : List Int) : Bool := dotFl (xs.take 100) (ys.take 100) || rndH (dotS (xs.take 100) (ys.take 100)) s
def fdotS : List AV → Bool → Option (LV × Bool × List (Bool × Bool))
  | [.pl (.v (.one (.int .i64 s))), .ints xs, .ints ys], hb => some (I (dotV s xs ys), hb || dotH s xs ys, [])
  | _, _ => none

theorem dot_nil {s : Int} {xs ys : List Int} (h : xs = [] ∨ ys = []) (hb : Bool) : rndS (wVal 0 0) s = dotV s xs ys ∧ (hb || rndH (wVal 0 0) s) = (hb || dotH s xs ys) := by
  have e : wVal 0 0 = 0 := rfl
  unfold dotV dotH
  rcases h with rfl | rfl
  · simp [dotS, dotFl, e]
  · simp [dotS_nilr, dotFl_nilr, e]
theorem dot_out {s : Int} (h : s < 0 ∨ s > 120) (xs ys : List Int) (hb : Bool) : rndS (wVal 0 0) s = dotV s xs ys ∧ (hb || rndH (wVal 0 0) s) = (hb || dotH s xs ys) := by
  unfold dotV dotH rndS rndH
  rcases h with h | h
  · simp [h]
  · have : ¬ s < 0 := by omega
    simp [h, this]

section
variable {P : Program} {S : FuncId → Option SumK} {z : Md}
theorem lcl3 (hs : Sound P S) {n : Nat} {f : FuncId} {args : List LV} {m m' : Mem} {nb : Nat} {dec : List (Option Bool)} {v : LV} {b0 b1 b2 : Option Blk} {cs : List (Bool × Bool)}
    (hrun : (runF P S z n f args m nb dec).map (fun r => (r.1, getM r.2.1 0, getM r.2.1 1, getM r.2.1 2, r.2.2.2)) = some (v, b0, b1, b2, cs))
    (hg : ∀ i b, getM m' i = some b → (i = 0 ∧ b0 = some b ∨ i = 1 ∧ b1 = some b ∨ i = 2 ∧ b2 = some b) ∧ i < nb ∧ okL (below nb) b.cells = true) (hc : ∀ c ∈ cs, c.1 = c.2) (hm : memOKb nb m = true) (ha : ∀ u ∈ args, u.ok (below nb) = true) (hv : v.ok noP = true)
    (E : Env) (w : World) (hrel : Rel E (getM m) w) : Calls P f (args.map (LV.den E)).toArray w fun e w' => e = .returned (v.den E0) ∧ Lcl E m m' w w' := by
  cases hq : runF P S z n f args m nb dec with
  | none => rw [hq] at hrun; cases hrun
  | some q =>
    obtain ⟨v', m2, nb', cs'⟩ := q
    rw [hq] at hrun
    simp only [Option.map_some, Option.some.injEq, Prod.mk.injEq] at hrun
    obtain ⟨rfl, e0, e1, e2, rfl⟩ := hrun
    refine lcl_of_run hs hq (fun i b hib => ?_) hc hm ha hv E w hrel
    obtain ⟨h, h2⟩ := hg i b hib
    refine ⟨?_, h2⟩
    rcases h with ⟨rfl, h⟩ | ⟨rfl, h⟩ | ⟨rfl, h⟩
    · rw [e0, h]
    · rw [e1, h]
    · rw [e2, h]
end
theorem cs_neg {s : Int} (h : s < 0) : ∀ c ∈ [(isI 0, true), (isU 0, true), (decide (s < 0), true), (decide (s < 0), true), (decide (s < 0), true)], c.1 = c.2 := by
  have h1 : isI 0 = true := by decide
  have h2 : isU 0 = true := by decide
  rw [h1, h2, decide_eq_true h]; simp
theorem cs_big {s : Int} (h : s > 120) : ∀ c ∈ [(isI 0, true), (isU 0, true), (decide (s > 120), true), (decide (s < 0), false), (decide (s < 0), false), (decide (s < 0), false)], c.1 = c.2 := by
  have h1 : isI 0 = true := by decide
  have h2 : isU 0 = true := by decide
  rw [h1, h2, decide_eq_true h, decide_eq_false (show ¬ s < 0 by omega)]; simp
theorem cs_in {s : Int} {b : Bool} (hb : b = false) (h0 : 0 ≤ s) (h : s ≤ 120) : ∀ c ∈ [(isI 0, true), (isU 0, true), (b, false), (decide (s > 120), false), (decide (s < 0), false), (decide (s < 0), false), (decide (s < 0), false)], c.1 = c.2 := by
  have h1 : isI 0 = true := by decide
  have h2 : isU 0 = true := by decide
  rw [h1, h2, hb, decide_eq_false (show ¬ s > 120 by omega), decide_eq_false (show ¬ s < 0 by omega)]; simp
theorem memOK4 {nb : Nat} {b0 b1 b2 b3 : Blk} (hnb : 4 ≤ nb) (h0 : okL (below nb) b0.cells = true) (h1 : okL (below nb) b1.cells = true) (h2 : okL (below nb) b2.cells = true) (h3 : okL (below nb) b3.cells = true) : memOKb nb [(0, b0), (1, b1), (2, b2), (3, b3)] = true := by
  have e0 : Nat.blt 0 nb = true := by rw [nblt]; simp; omega
  have e1 : Nat.blt 1 nb = true := by rw [nblt]; simp; omega
  have e2 : Nat.blt 2 nb = true := by rw [nblt]; simp; omega
  have e3 : Nat.blt 3 nb = true := by rw [nblt]; simp; omega
  simp only [memOKb, e0, e1, e2, e3, h0, h1, h2, h3]
  rfl
theorem memOK3' {nb : Nat} {b0 b1 b3 : Blk} (hnb : 4 ≤ nb) (h0 : okL (below nb) b0.cells = true) (h1 : okL (below nb) b1.cells = true) (h3 : okL (below nb) b3.cells = true) : memOKb nb [(0, b0), (1, b1), (3, b3)] = true := by
  have e0 : Nat.blt 0 nb = true := by rw [nblt]; simp; omega
  have e1 : Nat.blt 1 nb = true := by rw [nblt]; simp; omega
  have e3 : Nat.blt 3 nb = true := by rw [nblt]; simp; omega
  simp only [memOKb, e0, e1, e3, h0, h1, h3]
  rfl
theorem memOK1 {nb : Nat} {b0 : Blk} (hnb : 1 ≤ nb) (h0 : okL (below nb) b0.cells = true) : memOKb nb [(0, b0)] = true := by
  have e0 : Nat.blt 0 nb = true := by rw [nblt]; simp; omega
  simp only [memOKb, e0, h0]
  rfl
def P3 : LV := .v (.one (.ptr 3 0))
noncomputable def doBd : Code := c2 (c2 (c2 (bodyF Try.prog 55)))

def dAtwo (k1 k2 : Blk) (s : Int) (oa na ca ob nn cb : Nat) (h : Bool) (v mm i : Int) : Kst := ⟨[(0, A0), (1, I s), (2, SLX 1 oa na ca), (3, SLX 2 ob nn cb), (9, P3), (25, I mm), (26, I i)], [(0, flag 27 h), (1, k1), (2, k2), (3, wB v)], 4⟩
def dBtwo (k1 k2 : Blk) (s : Int) (h : Bool) (v : Int) : Kst := ⟨[(0, A0), (1, I s), (9, P3)], [(0, flag 27 h), (1, k1), (2, k2), (3, wB v)], 4⟩
theorem dSteptwo (k1 k2 : Blk) (s : Int) (oa na ca ob nn cb : Nat) (xs ys : List Int) (hx : SlAt 1 k1 oa na xs) (hy : SlAt 1 k2 ob nn ys) (hb : Bool) (m : Nat) (hm : m ≤ 100) (hma : m ≤ na) (hmb : m ≤ nn) (i : Nat) (hi : i < m) :
    To Try.prog 53 (c1 (c1 (c2 (c1 doBd)))) (dAtwo k1 k2 s oa na ca ob nn cb (hb || dotFl (xs.take i) (ys.take i)) (dotS (xs.take i) (ys.take i)) m i) .normal (dAtwo k1 k2 s oa na ca ob nn cb (hb || dotFl (xs.take (i + 1)) (ys.take (i + 1))) (dotS (xs.take (i + 1)) (ys.take (i + 1))) m ((i : Int) + 1)) := by
  obtain ⟨hlen, hat, hok⟩ := hx
  obtain ⟨hlen2, hat2, hok2⟩ := hy
  have ix : i < xs.length := by omega
  have iy : i < ys.length := by omega
  have hx := intAt_of (hat i ix)
  have hy := intAt_of (hat2 i iy)
  have b0 := dotS_bd (xs.take i) (ys.take i)
  rw [List.length_take] at b0
  have b1 := satsat xs[i] ys[i]
  have hmi : ((min i xs.length : Nat) : Int) = i := by omega
  rw [hmi] at b0
  have e0 : (xs.take i).length = (ys.take i).length := by simp only [List.length_take]; omega
  have e1 : dotS (xs.take (i + 1)) (ys.take (i + 1)) = dotS (xs.take i) (ys.take i) + satV xs[i] * satV ys[i] := by rw [take_snoc xs i ix, take_snoc ys i iy, dotS_app _ _ _ _ e0]
  have e2 : (hb || dotFl (xs.take (i + 1)) (ys.take (i + 1))) = (((hb || dotFl (xs.take i) (ys.take i)) || satH xs[i]) || satH ys[i]) := by rw [take_snoc xs i ix, take_snoc ys i iy, dotFl_app _ _ _ _ e0]; simp [Bool.or_assoc]
  have e3 : ((i : Int)).toNat * 1 = i := by simp
  have e4 : wr .i64 ((i : Int) + 1) = (i : Int) + 1 := w64_in (by omega) (by omega)
  have hI := isI_sat xs[i]
  have hI2 := isI_sat ys[i]
  obtain ⟨ty, fr, es, l⟩ := k1
  obtain ⟨ty2, fr2, es2, l2⟩ := k2
  rw [e1, e2]
  generalize dotS (xs.take i) (ys.take i) = D at *
  obtain ⟨⟨bD0, bD1⟩, ⟨bp0, bp1⟩, bs0, bs1⟩ := dot_bds hi hm b0 b1
  obtain ⟨i2a, i2b⟩ := wHi_inI D bD0 bD1
  obtain ⟨l2a, l2b⟩ := wLo_in D
  obtain ⟨i3a, i3b⟩ := wHi_inI (satV xs[i] * satV ys[i]) bp0 bp1
  obtain ⟨l3a, l3b⟩ := wLo_in (satV xs[i] * satV ys[i])
  have j0 : (0 : Int) ≤ (i : Int) := Int.natCast_nonneg i
  have j1 : (i : Int) < (na : Int) := Int.ofNat_lt.2 (Nat.lt_of_lt_of_le hi hma)
  have j2 : (i : Int) < (nn : Int) := Int.ofNat_lt.2 (Nat.lt_of_lt_of_le hi hmb)
  have j3 : (i : Int) < (m : Int) := Int.ofNat_lt.2 hi
  refine To.run (z := Zl) sound18 (slots := [0, 1, 2, 3, 9, 25, 26]) (blks := [0, 1, 2, 3]) (vs := [A0, I s, SLX 1 oa na ca, SLX 2 ob nn cb, P3, I m, I ((i : Int) + 1)])
    (bs := [flag 27 (((hb || dotFl (xs.take i) (ys.take i)) || satH xs[i]) || satH ys[i]), ⟨ty, fr, es, l⟩, ⟨ty2, fr2, es2, l2⟩, wB (D + satV xs[i] * satV ys[i])]) (nbB := 4)
    (fun dead => dot_two_c dead (hb || dotFl (xs.take i) (ys.take i)) s oa na ca ob nn cb ty fr es l ty2 fr2 es2 l2 (wHi D) (wLo D) m i) rfl (by rw [e4]; rfl) (by rw [e3, hx.1, hy.1]; simp only [wVal_mk]; rfl) ?_ (kst_ok rfl (memOK4 (Nat.le_refl _) rfl (okL_mono noP_below hok) (okL_mono noP_below hok2) rfl)) (Nat.le_refl _)
  rw [e3, hx.1, hx.2, hy.1, hy.2, hI, hI2]
  simp only [wVal_mk, all_tt, isI_iff, isU_iff, isW_iff, Bool.and_eq_true, decide_eq_true_eq]
  repeat' apply And.intro
  all_goals first | exact ae_nil | exact True.intro | assumption
theorem dEndtwo (k1 k2 : Blk) (s : Int) (oa na ca ob nn cb : Nat) (hok : okL noP k1.cells = true) (hok2 : okL noP k2.cells = true) (h : Bool) (v : Int) (m : Nat) : To Try.prog 53 (c1 (c1 (c2 (c1 doBd)))) (dAtwo k1 k2 s oa na ca ob nn cb h v m m) (.exit 0) (dBtwo k1 k2 s h v) := by
  obtain ⟨ty, fr, es, l⟩ := k1
  obtain ⟨ty2, fr2, es2, l2⟩ := k2
  refine To.exec (z := Zl) sound18 (slots := [0, 1, 9]) (blks := [0, 1, 2, 3]) (vs := [A0, I s, P3]) (bs := [flag 27 h, ⟨ty, fr, es, l⟩, ⟨ty2, fr2, es2, l2⟩, wB v]) (nbB := 4) (fun dead => dot_two_d dead h s oa na ca ob nn cb ty fr es l ty2 fr2 es2 l2 (wHi v) (wLo v) m m) ?_ (kst_ok rfl (memOK4 (Nat.le_refl _) rfl (okL_mono noP_below hok) (okL_mono noP_below hok2) rfl)) (Nat.le_refl _)
  simp
theorem dRdtwo (k1 k2 : Blk) (s : Int) (oa na ca ob nn cb : Nat) (xs ys : List Int) (hx : SlAt 1 k1 oa na xs) (hy : SlAt 1 k2 ob nn ys) (hb : Bool) (m : Nat) (hm : m ≤ 100) (hma : m ≤ na) (hmb : m ≤ nn) : ∀ (j i : Nat), i + j = m →
    Rd Try.prog 53 (c1 (c1 (c2 (c1 doBd)))) (j + 1) (dAtwo k1 k2 s oa na ca ob nn cb (hb || dotFl (xs.take i) (ys.take i)) (dotS (xs.take i) (ys.take i)) m i) (.exit 0) (dBtwo k1 k2 s (hb || dotFl (xs.take m) (ys.take m)) (dotS (xs.take m) (ys.take m)))
  | 0, i, h => by
    have hi : i = m := by omega
    subst hi
    exact Rd.last (by simp) (dEndtwo k1 k2 s oa na ca ob nn cb hx.2.2 hy.2.2 _ _ i)
  | j + 1, i, h => Rd.next (dSteptwo k1 k2 s oa na ca ob nn cb xs ys hx hy hb m hm hma hmb i (by omega)) (dRdtwo k1 k2 s oa na ca ob nn cb xs ys hx hy hb m hm hma hmb j (i + 1) (by omega))

theorem dIntwo (k1 k2 : Blk) (s : Int) (h0 : 0 ≤ s) (h1 : s ≤ 120) (oa na ca ob nn cb : Nat) (xs ys : List Int) (hx : SlAt 1 k1 oa na xs) (hy : SlAt 1 k2 ob nn ys) (hb : Bool) (E : Env) (w : World) (hrel : Rel E (getM [(0, flag 27 hb), (1, k1), (2, k2)]) w) :
    Calls Try.prog 55 ((A0 :: ([I s] ++ [SLX 1 oa na ca, SLX 2 ob nn cb])).map (LV.den E)).toArray w fun e w' => e = .returned ((I (dotV s xs ys)).den E0) ∧ Lcl E [(0, flag 27 hb), (1, k1), (2, k2)] [(0, flag 27 (hb || dotH s xs ys)), (1, k1), (2, k2)] w w' := by
  have hxl : xs.length = na := by have := hx.1; omega
  have hyl : ys.length = nn := by have := hy.1; omega
  have hok := hx.2.2
  have hok2 := hy.2.2
  have hm : min (min na nn) 100 ≤ 100 := by omega
  have hR := dRdtwo k1 k2 s oa na ca ob nn cb xs ys hx hy hb (min (min na nn) 100) (by omega) (by omega) (by omega) (min (min na nn) 100) 0 (by omega)
  have hmin := dot_min xs ys (min (min na nn) 100) 100 (by omega) (by omega)
  rw [hmin.1, hmin.2] at hR
  have eI : (if (100 : Int) < if (nn : Int) < (na : Int) then (nn : Int) else (na : Int) then 100 else if (nn : Int) < (na : Int) then (nn : Int) else (na : Int)) = ((min (min na nn) 100 : Nat) : Int) := by (repeat' split) <;> omega
  generalize min (min na nn) 100 = m at *
  have b0 := dotS_bd (xs.take 100) (ys.take 100)
  rw [List.length_take] at b0
  have hV : dotV s xs ys = rndS (dotS (xs.take 100) (ys.take 100)) s := rfl
  have hH : (hb || dotH s xs ys) = ((hb || dotFl (xs.take 100) (ys.take 100)) || rndH (dotS (xs.take 100) (ys.take 100)) s) := by unfold dotH; rw [Bool.or_assoc]
  rw [hV, hH]
  generalize dotS (xs.take 100) (ys.take 100) = D at *
  obtain ⟨bD0, bD1⟩ := dot_bdn (k := 0) b0
  have hi2 := wHi_inI D bD0 bD1
  have hl2 := wLo_in D
  have hs1 : decide (s > 120) = false := decide_eq_false (by omega)
  have hs0 : decide (s < 0) = false := decide_eq_false (by omega)
  obtain ⟨ty, fr, es, l⟩ := k1
  obtain ⟨ty2, fr2, es2, l2⟩ := k2
  refine lcl_of_To (c := bodyF Try.prog 55) (e := .ret) (nb := 3) (B := ⟨[(8, I (rndS D s))], [(0, flag 27 ((hb || dotFl (xs.take 100) (ys.take 100)) || rndH D s)), (1, ⟨ty, fr, es, l⟩), (2, ⟨ty2, fr2, es2, l2⟩)], 4⟩) Try.func55 (by kernel_rfl) (Nat.le_of_ble_eq_true (by kernel_rfl)) (Nat.le_of_ble_eq_true (by kernel_rfl))
    (fun u hu => ?_) (memOK3 (Nat.le_refl _) rfl (okL_mono noP_below hok) (okL_mono noP_below hok2)) ?_ (.inr rfl) (fun dead => by kernel_rfl) rfl (fun i b hib => ?_) E w hrel
  · simp only [List.cons_append, List.nil_append, List.mem_cons, List.not_mem_nil, or_false] at hu
    rcases hu with rfl | rfl | rfl | rfl <;> rfl
  · refine To.spineR (z := Zl) sound18 (k := 3) (slots := [0, 1, 2, 3, 9]) (blks := [0, 1, 2, 3]) (vs := [A0, I s, SLX 1 oa na ca, SLX 2 ob nn cb, P3]) (bs := [flag 27 hb, ⟨ty, fr, es, l⟩, ⟨ty2, fr2, es2, l2⟩, wB 0]) (nbB := 4) (by kernel_rfl) (fun dead => dot_two_a dead hb s oa na ca ob nn cb ty fr es l ty2 fr2 es2 l2) rfl rfl rfl (by rw [hs1, hs0]; simp) (kst_ok rfl (memOK4 (Nat.le_refl _) rfl (okL_mono noP_below hok) (okL_mono noP_below hok2) rfl)) (Nat.le_succ 3) ?_
    refine To.seq (by kernel_rfl) (To.seq (by kernel_rfl) (To.run (z := Zl) sound18 (slots := [0, 1, 2, 3, 9, 25, 26]) (blks := [0, 1, 2, 3]) (vs := [A0, I s, SLX 1 oa na ca, SLX 2 ob nn cb, P3, I m, I 0]) (bs := [flag 27 hb, ⟨ty, fr, es, l⟩, ⟨ty2, fr2, es2, l2⟩, wB 0]) (nbB := 4) (fun dead => dot_two_b dead hb s oa na ca ob nn cb ty fr es l ty2 fr2 es2 l2 0 0) rfl (by simp only [eI]; rfl) rfl ae_nil (kst_ok rfl (memOK4 (Nat.le_refl _) rfl (okL_mono noP_below hok) (okL_mono noP_below hok2) rfl)) (Nat.le_refl _))
      (To.block (id := 0) (by kernel_rfl) (To.loop (m := m + 1) (by kernel_rfl) ?_) (.inl rfl))) (C := _) (B := dBtwo ⟨ty, fr, es, l⟩ ⟨ty2, fr2, es2, l2⟩ s (hb || dotFl (xs.take 100) (ys.take 100)) D) ?_
    · simp only [List.take_zero, dotFl, Bool.or_false, dotS] at hR
      exact hR
    · refine To.run (z := Zl) sound18 (slots := [8]) (blks := [0, 1, 2]) (vs := [I (rndS D s)]) (bs := [flag 27 ((hb || dotFl (xs.take 100) (ys.take 100)) || rndH D s), ⟨ty, fr, es, l⟩, ⟨ty2, fr2, es2, l2⟩]) (nbB := 4) (fun dead => dot_two_e dead (hb || dotFl (xs.take 100) (ys.take 100)) s oa na ca ob nn cb ty fr es l ty2 fr2 es2 l2 (wHi D) (wLo D)) rfl ?_ ?_ ?_ (kst_ok rfl (memOK3 (Nat.le_of_ble_eq_true rfl) rfl (okL_mono noP_below hok) (okL_mono noP_below hok2))) (Nat.le_refl _)
      · rw [wVal_mk]; rfl
      · rw [wVal_mk]; rfl
      · simp only [all_tt, isI_iff, isU_iff]
        exact ⟨hi2, hl2, ae_nil⟩
  · rcases get3 hib with ⟨rfl, rfl⟩ | ⟨rfl, rfl⟩ | ⟨rfl, rfl⟩
    · exact ⟨rfl, by decide, rfl⟩
    · exact ⟨rfl, by decide, okL_mono noP_below hok⟩
    · exact ⟨rfl, by decide, okL_mono noP_below hok2⟩

def dAone (k1 : Blk) (s : Int) (oa na ca ob nn cb : Nat) (h : Bool) (v mm i : Int) : Kst := ⟨[(0, A0), (1, I s), (2, SLX 1 oa na ca), (3, SLX 1 ob nn cb), (9, P3), (25, I mm), (26, I i)], [(0, flag 27 h), (1, k1), (3, wB v)], 4⟩
def dBone (k1 : Blk) (s : Int) (h : Bool) (v : Int) : Kst := ⟨[(0, A0), (1, I s), (9, P3)], [(0, flag 27 h), (1, k1), (3, wB v)], 4⟩
theorem dStepone (k1 : Blk) (s : Int) (oa na ca ob nn cb : Nat) (xs ys : List Int) (hx : SlAt 1 k1 oa na xs) (hy : SlAt 1 k1 ob nn ys) (hb : Bool) (m : Nat) (hm : m ≤ 100) (hma : m ≤ na) (hmb : m ≤ nn) (i : Nat) (hi : i < m) :
    To Try.prog 53 (c1 (c1 (c2 (c1 doBd)))) (dAone k1 s oa na ca ob nn cb (hb || dotFl (xs.take i) (ys.take i)) (dotS (xs.take i) (ys.take i)) m i) .normal (dAone k1 s oa na ca ob nn cb (hb || dotFl (xs.take (i + 1)) (ys.take (i + 1))) (dotS (xs.take (i + 1)) (ys.take (i + 1))) m ((i : Int) + 1)) := by
  obtain ⟨hlen, hat, hok⟩ := hx
  obtain ⟨hlen2, hat2, -⟩ := hy
  have ix : i < xs.length := by omega
  have iy : i < ys.length := by omega
  have hx := intAt_of (hat i ix)
  have hy := intAt_of (hat2 i iy)
  have b0 := dotS_bd (xs.take i) (ys.take i)
  rw [List.length_take] at b0
  have b1 := satsat xs[i] ys[i]
  have hmi : ((min i xs.length : Nat) : Int) = i := by omega
  rw [hmi] at b0
  have e0 : (xs.take i).length = (ys.take i).length := by simp only [List.length_take]; omega
  have e1 : dotS (xs.take (i + 1)) (ys.take (i + 1)) = dotS (xs.take i) (ys.take i) + satV xs[i] * satV ys[i] := by rw [take_snoc xs i ix, take_snoc ys i iy, dotS_app _ _ _ _ e0]
  have e2 : (hb || dotFl (xs.take (i + 1)) (ys.take (i + 1))) = (((hb || dotFl (xs.take i) (ys.take i)) || satH xs[i]) || satH ys[i]) := by rw [take_snoc xs i ix, take_snoc ys i iy, dotFl_app _ _ _ _ e0]; simp [Bool.or_assoc]
  have e3 : ((i : Int)).toNat * 1 = i := by simp
  have e4 : wr .i64 ((i : Int) + 1) = (i : Int) + 1 := w64_in (by omega) (by omega)
  have hI := isI_sat xs[i]
  have hI2 := isI_sat ys[i]
  obtain ⟨ty, fr, es, l⟩ := k1
  rw [e1, e2]
  generalize dotS (xs.take i) (ys.take i) = D at *
  obtain ⟨⟨bD0, bD1⟩, ⟨bp0, bp1⟩, bs0, bs1⟩ := dot_bds hi hm b0 b1
  obtain ⟨i2a, i2b⟩ := wHi_inI D bD0 bD1
  obtain ⟨l2a, l2b⟩ := wLo_in D
  obtain ⟨i3a, i3b⟩ := wHi_inI (satV xs[i] * satV ys[i]) bp0 bp1
  obtain ⟨l3a, l3b⟩ := wLo_in (satV xs[i] * satV ys[i])
  have j0 : (0 : Int) ≤ (i : Int) := Int.natCast_nonneg i
  have j1 : (i : Int) < (na : Int) := Int.ofNat_lt.2 (Nat.lt_of_lt_of_le hi hma)
  have j2 : (i : Int) < (nn : Int) := Int.ofNat_lt.2 (Nat.lt_of_lt_of_le hi hmb)
  have j3 : (i : Int) < (m : Int) := Int.ofNat_lt.2 hi
  refine To.run (z := Zl) sound18 (slots := [0, 1, 2, 3, 9, 25, 26]) (blks := [0, 1, 3]) (vs := [A0, I s, SLX 1 oa na ca, SLX 1 ob nn cb, P3, I m, I ((i : Int) + 1)])
    (bs := [flag 27 (((hb || dotFl (xs.take i) (ys.take i)) || satH xs[i]) || satH ys[i]), ⟨ty, fr, es, l⟩, wB (D + satV xs[i] * satV ys[i])]) (nbB := 4)
    (fun dead => dot_one_c dead (hb || dotFl (xs.take i) (ys.take i)) s oa na ca ob nn cb ty fr es l (wHi D) (wLo D) m i) rfl (by rw [e4]; rfl) (by rw [e3, hx.1, hy.1]; simp only [wVal_mk]; rfl) ?_ (kst_ok rfl (memOK3' (Nat.le_refl _) rfl (okL_mono noP_below hok) rfl)) (Nat.le_refl _)
  rw [e3, hx.1, hx.2, hy.1, hy.2, hI, hI2]
  simp only [wVal_mk, all_tt, isI_iff, isU_iff, isW_iff, Bool.and_eq_true, decide_eq_true_eq]
  repeat' apply And.intro
  all_goals first | exact ae_nil | exact True.intro | assumption
theorem dEndone (k1 : Blk) (s : Int) (oa na ca ob nn cb : Nat) (hok : okL noP k1.cells = true) (h : Bool) (v : Int) (m : Nat) : To Try.prog 53 (c1 (c1 (c2 (c1 doBd)))) (dAone k1 s oa na ca ob nn cb h v m m) (.exit 0) (dBone k1 s h v) := by
  obtain ⟨ty, fr, es, l⟩ := k1
  refine To.exec (z := Zl) sound18 (slots := [0, 1, 9]) (blks := [0, 1, 3]) (vs := [A0, I s, P3]) (bs := [flag 27 h, ⟨ty, fr, es, l⟩, wB v]) (nbB := 4) (fun dead => dot_one_d dead h s oa na ca ob nn cb ty fr es l (wHi v) (wLo v) m m) ?_ (kst_ok rfl (memOK3' (Nat.le_refl _) rfl (okL_mono noP_below hok) rfl)) (Nat.le_refl _)
  simp
theorem dRdone (k1 : Blk) (s : Int) (oa na ca ob nn cb : Nat) (xs ys : List Int) (hx : SlAt 1 k1 oa na xs) (hy : SlAt 1 k1 ob nn ys) (hb : Bool) (m : Nat) (hm : m ≤ 100) (hma : m ≤ na) (hmb : m ≤ nn) : ∀ (j i : Nat), i + j = m →
    Rd Try.prog 53 (c1 (c1 (c2 (c1 doBd)))) (j + 1) (dAone k1 s oa na ca ob nn cb (hb || dotFl (xs.take i) (ys.take i)) (dotS (xs.take i) (ys.take i)) m i) (.exit 0) (dBone k1 s (hb || dotFl (xs.take m) (ys.take m)) (dotS (xs.take m) (ys.take m)))
  | 0, i, h => by
    have hi : i = m := by omega
    subst hi
    exact Rd.last (by simp) (dEndone k1 s oa na ca ob nn cb hx.2.2 _ _ i)
  | j + 1, i, h => Rd.next (dStepone k1 s oa na ca ob nn cb xs ys hx hy hb m hm hma hmb i (by omega)) (dRdone k1 s oa na ca ob nn cb xs ys hx hy hb m hm hma hmb j (i + 1) (by omega))

theorem dInone (k1 : Blk) (s : Int) (h0 : 0 ≤ s) (h1 : s ≤ 120) (oa na ca ob nn cb : Nat) (xs ys : List Int) (hx : SlAt 1 k1 oa na xs) (hy : SlAt 1 k1 ob nn ys) (hb : Bool) (E : Env) (w : World) (hrel : Rel E (getM [(0, flag 27 hb), (1, k1)]) w) :
    Calls Try.prog 55 ((A0 :: ([I s] ++ [SLX 1 oa na ca, SLX 1 ob nn cb])).map (LV.den E)).toArray w fun e w' => e = .returned ((I (dotV s xs ys)).den E0) ∧ Lcl E [(0, flag 27 hb), (1, k1)] [(0, flag 27 (hb || dotH s xs ys)), (1, k1)] w w' := by
  have hxl : xs.length = na := by have := hx.1; omega
  have hyl : ys.length = nn := by have := hy.1; omega
  have hok := hx.2.2
  have hok2 := hy.2.2
  have hm : min (min na nn) 100 ≤ 100 := by omega
  have hR := dRdone k1 s oa na ca ob nn cb xs ys hx hy hb (min (min na nn) 100) (by omega) (by omega) (by omega) (min (min na nn) 100) 0 (by omega)
  have hmin := dot_min xs ys (min (min na nn) 100) 100 (by omega) (by omega)
  rw [hmin.1, hmin.2] at hR
  have eI : (if (100 : Int) < if (nn : Int) < (na : Int) then (nn : Int) else (na : Int) then 100 else if (nn : Int) < (na : Int) then (nn : Int) else (na : Int)) = ((min (min na nn) 100 : Nat) : Int) := by (repeat' split) <;> omega
  generalize min (min na nn) 100 = m at *
  have b0 := dotS_bd (xs.take 100) (ys.take 100)
  rw [List.length_take] at b0
  have hV : dotV s xs ys = rndS (dotS (xs.take 100) (ys.take 100)) s := rfl
  have hH : (hb || dotH s xs ys) = ((hb || dotFl (xs.take 100) (ys.take 100)) || rndH (dotS (xs.take 100) (ys.take 100)) s) := by unfold dotH; rw [Bool.or_assoc]
  rw [hV, hH]
  generalize dotS (xs.take 100) (ys.take 100) = D at *
  obtain ⟨bD0, bD1⟩ := dot_bdn (k := 0) b0
  have hi2 := wHi_inI D bD0 bD1
  have hl2 := wLo_in D
  have hs1 : decide (s > 120) = false := decide_eq_false (by omega)
  have hs0 : decide (s < 0) = false := decide_eq_false (by omega)
  obtain ⟨ty, fr, es, l⟩ := k1
  refine lcl_of_To (c := bodyF Try.prog 55) (e := .ret) (nb := 3) (B := ⟨[(8, I (rndS D s))], [(0, flag 27 ((hb || dotFl (xs.take 100) (ys.take 100)) || rndH D s)), (1, ⟨ty, fr, es, l⟩)], 4⟩) Try.func55 (by kernel_rfl) (Nat.le_of_ble_eq_true (by kernel_rfl)) (Nat.le_of_ble_eq_true (by kernel_rfl))
    (fun u hu => ?_) (memOK2 (Nat.le_of_ble_eq_true rfl) rfl (okL_mono noP_below hok)) ?_ (.inr rfl) (fun dead => by kernel_rfl) rfl (fun i b hib => ?_) E w hrel
  · simp only [List.cons_append, List.nil_append, List.mem_cons, List.not_mem_nil, or_false] at hu
    rcases hu with rfl | rfl | rfl | rfl <;> rfl
  · refine To.spineR (z := Zl) sound18 (k := 3) (slots := [0, 1, 2, 3, 9]) (blks := [0, 1, 3]) (vs := [A0, I s, SLX 1 oa na ca, SLX 1 ob nn cb, P3]) (bs := [flag 27 hb, ⟨ty, fr, es, l⟩, wB 0]) (nbB := 4) (by kernel_rfl) (fun dead => dot_one_a dead hb s oa na ca ob nn cb ty fr es l) rfl rfl rfl (by rw [hs1, hs0]; simp) (kst_ok rfl (memOK3' (Nat.le_refl _) rfl (okL_mono noP_below hok) rfl)) (Nat.le_succ 3) ?_
    refine To.seq (by kernel_rfl) (To.seq (by kernel_rfl) (To.run (z := Zl) sound18 (slots := [0, 1, 2, 3, 9, 25, 26]) (blks := [0, 1, 3]) (vs := [A0, I s, SLX 1 oa na ca, SLX 1 ob nn cb, P3, I m, I 0]) (bs := [flag 27 hb, ⟨ty, fr, es, l⟩, wB 0]) (nbB := 4) (fun dead => dot_one_b dead hb s oa na ca ob nn cb ty fr es l 0 0) rfl (by simp only [eI]; rfl) rfl ae_nil (kst_ok rfl (memOK3' (Nat.le_refl _) rfl (okL_mono noP_below hok) rfl)) (Nat.le_refl _))
      (To.block (id := 0) (by kernel_rfl) (To.loop (m := m + 1) (by kernel_rfl) ?_) (.inl rfl))) (C := _) (B := dBone ⟨ty, fr, es, l⟩ s (hb || dotFl (xs.take 100) (ys.take 100)) D) ?_
    · simp only [List.take_zero, dotFl, Bool.or_false, dotS] at hR
      exact hR
    · refine To.run (z := Zl) sound18 (slots := [8]) (blks := [0, 1]) (vs := [I (rndS D s)]) (bs := [flag 27 ((hb || dotFl (xs.take 100) (ys.take 100)) || rndH D s), ⟨ty, fr, es, l⟩]) (nbB := 4) (fun dead => dot_one_e dead (hb || dotFl (xs.take 100) (ys.take 100)) s oa na ca ob nn cb ty fr es l (wHi D) (wLo D)) rfl ?_ ?_ ?_ (kst_ok rfl (memOK2 (Nat.le_of_ble_eq_true rfl) rfl (okL_mono noP_below hok))) (Nat.le_refl _)
      · rw [wVal_mk]; rfl
      · rw [wVal_mk]; rfl
      · simp only [all_tt, isI_iff, isU_iff]
        exact ⟨hi2, hl2, ae_nil⟩
  · rcases get2 hib with ⟨rfl, rfl⟩ | ⟨rfl, rfl⟩
    · exact ⟨rfl, by decide, rfl⟩
    · exact ⟨rfl, by decide, okL_mono noP_below hok⟩

theorem sumDot : SumOK Try.prog 55 (acSum 27 1 fdotS) := by
  refine acSum2_ok (own_of sound18 Try.func55 (by kernel_rfl)) (fun avs hb r h => ?_) fun pre xs ys hb v h' cs hF hcc hp hv => ?_
  · unfold fdotS at h
    split at h
    · exact ⟨[_], _, _, rfl⟩
    · cases h
  · have hpre : ∃ s, pre = [I s] := by
      match pre with
      | [] => simp [fdotS] at hF
      | [p] =>
        simp only [List.map_cons, List.map_nil, List.cons_append, List.nil_append] at hF
        unfold fdotS at hF
        split at hF
        · rename_i he
          simp only [List.cons.injEq, AV.pl.injEq] at he
          obtain ⟨e, -⟩ := he
          exact ⟨_, by rw [e]; rfl⟩
        · cases hF
      | p :: q :: r => simp [fdotS] at hF
    obtain ⟨s, rfl⟩ := hpre
    have hF' : some (I (dotV s xs ys), hb || dotH s xs ys, []) = some (v, h', cs) := hF
    cases hF'
    have hargs : ∀ (p q : LV) (nb : Nat), p.ok (below nb) = true → q.ok (below nb) = true → 1 ≤ nb → ∀ u ∈ A0 :: ([I s] ++ [p, q]), u.ok (below nb) = true := by
      intro p q nb hp hq hn u hu
      simp only [List.cons_append, List.nil_append, List.mem_cons, List.not_mem_nil, or_false] at hu
      rcases hu with rfl | rfl | rfl | rfl
      · simp [A0, LV.ok, V1.ok, At.ok, below, nblt]; omega
      · rfl
      · exact hp
      · exact hq
    have hs : s < 0 ∨ s > 120 ∨ (0 ≤ s ∧ s ≤ 120) := by omega
    refine ⟨fun k1 oa na ca k2 ob nn cb hx hy E w hrel => ?_, fun k1 oa na ca ob nn cb hx hy E w hrel => ?_, fun hx k1 ob nn cb hy E w hrel => ?_, fun hy k1 oa na ca hx E w hrel => ?_, fun hx hy E w hrel => ?_⟩
    · have hok := hx.2.2
      have hok2 := hy.2.2
      obtain ⟨ty, fr, es, l⟩ := k1
      obtain ⟨ty2, fr2, es2, l2⟩ := k2
      rcases hs with h | h | ⟨h0, h1⟩
      · have hd := dot_out (.inl h) xs ys hb
        rw [← hd.1, ← hd.2]
        refine lcl3 sound18 (dn_two_neg hb s oa na ca ob nn cb ty fr es l ty2 fr2 es2 l2) (fun i b hib => ?_) (cs_neg h) (memOK3 (Nat.le_refl _) rfl (okL_mono noP_below hok) (okL_mono noP_below hok2)) (hargs _ _ _ rfl rfl (by decide)) rfl E w hrel
        · rcases get3 hib with ⟨rfl, rfl⟩ | ⟨rfl, rfl⟩ | ⟨rfl, rfl⟩
          · exact ⟨.inl ⟨rfl, rfl⟩, by decide, rfl⟩
          · exact ⟨.inr (.inl ⟨rfl, rfl⟩), by decide, okL_mono noP_below hok⟩
          · exact ⟨.inr (.inr ⟨rfl, rfl⟩), by decide, okL_mono noP_below hok2⟩
      · have hd := dot_out (.inr h) xs ys hb
        rw [← hd.1, ← hd.2]
        refine lcl3 sound18 (dn_two_big hb s oa na ca ob nn cb ty fr es l ty2 fr2 es2 l2) (fun i b hib => ?_) (cs_big h) (memOK3 (Nat.le_refl _) rfl (okL_mono noP_below hok) (okL_mono noP_below hok2)) (hargs _ _ _ rfl rfl (by decide)) rfl E w hrel
        · rcases get3 hib with ⟨rfl, rfl⟩ | ⟨rfl, rfl⟩ | ⟨rfl, rfl⟩
          · exact ⟨.inl ⟨rfl, rfl⟩, by decide, rfl⟩
          · exact ⟨.inr (.inl ⟨rfl, rfl⟩), by decide, okL_mono noP_below hok⟩
          · exact ⟨.inr (.inr ⟨rfl, rfl⟩), by decide, okL_mono noP_below hok2⟩
      · exact dIntwo ⟨ty, fr, es, l⟩ ⟨ty2, fr2, es2, l2⟩ s h0 h1 oa na ca ob nn cb xs ys hx hy hb E w hrel
    · have hok := hx.2.2
      obtain ⟨ty, fr, es, l⟩ := k1
      rcases hs with h | h | ⟨h0, h1⟩
      · have hd := dot_out (.inl h) xs ys hb
        rw [← hd.1, ← hd.2]
        refine lcl3 sound18 (dn_one_neg hb s oa na ca ob nn cb ty fr es l 0 (0, 0) 0 []) (fun i b hib => ?_) (cs_neg h) (memOK2 (Nat.le_of_ble_eq_true rfl) rfl (okL_mono noP_below hok)) (hargs _ _ _ rfl rfl (by decide)) rfl E w hrel
        · rcases get2 hib with ⟨rfl, rfl⟩ | ⟨rfl, rfl⟩
          · exact ⟨.inl ⟨rfl, rfl⟩, by decide, rfl⟩
          · exact ⟨.inr (.inl ⟨rfl, rfl⟩), by decide, okL_mono noP_below hok⟩
      · have hd := dot_out (.inr h) xs ys hb
        rw [← hd.1, ← hd.2]
        refine lcl3 sound18 (dn_one_big hb s oa na ca ob nn cb ty fr es l 0 (0, 0) 0 []) (fun i b hib => ?_) (cs_big h) (memOK2 (Nat.le_of_ble_eq_true rfl) rfl (okL_mono noP_below hok)) (hargs _ _ _ rfl rfl (by decide)) rfl E w hrel
        · rcases get2 hib with ⟨rfl, rfl⟩ | ⟨rfl, rfl⟩
          · exact ⟨.inl ⟨rfl, rfl⟩, by decide, rfl⟩
          · exact ⟨.inr (.inl ⟨rfl, rfl⟩), by decide, okL_mono noP_below hok⟩
      · exact dInone ⟨ty, fr, es, l⟩ s h0 h1 oa na ca ob nn cb xs ys hx hy hb E w hrel
    · have hok := hy.2.2
      obtain ⟨ty, fr, es, l⟩ := k1
      rcases hs with h | h | ⟨h0, h1⟩
      · have hd := dot_out (.inl h) xs ys hb
        rw [← hd.1, ← hd.2]
        refine lcl3 sound18 (dn_right_neg hb s 0 0 0 ob nn cb ty fr es l 0 (0, 0) 0 []) (fun i b hib => ?_) (cs_neg h) (memOK2 (Nat.le_of_ble_eq_true rfl) rfl (okL_mono noP_below hok)) (hargs _ _ _ rfl rfl (by decide)) rfl E w hrel
        · rcases get2 hib with ⟨rfl, rfl⟩ | ⟨rfl, rfl⟩
          · exact ⟨.inl ⟨rfl, rfl⟩, by decide, rfl⟩
          · exact ⟨.inr (.inl ⟨rfl, rfl⟩), by decide, okL_mono noP_below hok⟩
      · have hd := dot_out (.inr h) xs ys hb
        rw [← hd.1, ← hd.2]
        refine lcl3 sound18 (dn_right_big hb s 0 0 0 ob nn cb ty fr es l 0 (0, 0) 0 []) (fun i b hib => ?_) (cs_big h) (memOK2 (Nat.le_of_ble_eq_true rfl) rfl (okL_mono noP_below hok)) (hargs _ _ _ rfl rfl (by decide)) rfl E w hrel
        · rcases get2 hib with ⟨rfl, rfl⟩ | ⟨rfl, rfl⟩
          · exact ⟨.inl ⟨rfl, rfl⟩, by decide, rfl⟩
          · exact ⟨.inr (.inl ⟨rfl, rfl⟩), by decide, okL_mono noP_below hok⟩
      · have hd := dot_nil (s := s) (xs := xs) (ys := ys) (.inl hx) hb
        rw [← hd.1, ← hd.2]
        refine lcl3 sound18 (dn_right_in hb s 0 0 0 ob nn cb ty fr es l 0 (0, 0) 0 []) (fun i b hib => ?_) (cs_in (decide_eq_false (by (repeat' split) <;> omega)) h0 h1) (memOK2 (Nat.le_of_ble_eq_true rfl) rfl (okL_mono noP_below hok)) (hargs _ _ _ rfl rfl (by decide)) rfl E w hrel
        · rcases get2 hib with ⟨rfl, rfl⟩ | ⟨rfl, rfl⟩
          · exact ⟨.inl ⟨rfl, rfl⟩, by decide, rfl⟩
          · exact ⟨.inr (.inl ⟨rfl, rfl⟩), by decide, okL_mono noP_below hok⟩
    · have hok := hx.2.2
      obtain ⟨ty, fr, es, l⟩ := k1
      rcases hs with h | h | ⟨h0, h1⟩
      · have hd := dot_out (.inl h) xs ys hb
        rw [← hd.1, ← hd.2]
        refine lcl3 sound18 (dn_left_neg hb s oa na ca 0 0 0 ty fr es l 0 (0, 0) 0 []) (fun i b hib => ?_) (cs_neg h) (memOK2 (Nat.le_of_ble_eq_true rfl) rfl (okL_mono noP_below hok)) (hargs _ _ _ rfl rfl (by decide)) rfl E w hrel
        · rcases get2 hib with ⟨rfl, rfl⟩ | ⟨rfl, rfl⟩
          · exact ⟨.inl ⟨rfl, rfl⟩, by decide, rfl⟩
          · exact ⟨.inr (.inl ⟨rfl, rfl⟩), by decide, okL_mono noP_below hok⟩
      · have hd := dot_out (.inr h) xs ys hb
        rw [← hd.1, ← hd.2]
        refine lcl3 sound18 (dn_left_big hb s oa na ca 0 0 0 ty fr es l 0 (0, 0) 0 []) (fun i b hib => ?_) (cs_big h) (memOK2 (Nat.le_of_ble_eq_true rfl) rfl (okL_mono noP_below hok)) (hargs _ _ _ rfl rfl (by decide)) rfl E w hrel
        · rcases get2 hib with ⟨rfl, rfl⟩ | ⟨rfl, rfl⟩
          · exact ⟨.inl ⟨rfl, rfl⟩, by decide, rfl⟩
          · exact ⟨.inr (.inl ⟨rfl, rfl⟩), by decide, okL_mono noP_below hok⟩
      · have hd := dot_nil (s := s) (xs := xs) (ys := ys) (.inr hy) hb
        rw [← hd.1, ← hd.2]
        refine lcl3 sound18 (dn_left_in hb s oa na ca 0 0 0 ty fr es l 0 (0, 0) 0 []) (fun i b hib => ?_) (cs_in (decide_eq_false (by (repeat' split) <;> omega)) h0 h1) (memOK2 (Nat.le_of_ble_eq_true rfl) rfl (okL_mono noP_below hok)) (hargs _ _ _ rfl rfl (by decide)) rfl E w hrel
        · rcases get2 hib with ⟨rfl, rfl⟩ | ⟨rfl, rfl⟩
          · exact ⟨.inl ⟨rfl, rfl⟩, by decide, rfl⟩
          · exact ⟨.inr (.inl ⟨rfl, rfl⟩), by decide, okL_mono noP_below hok⟩
    · have hok := True.intro
      have l : List At := []
      rcases hs with h | h | ⟨h0, h1⟩
      · have hd := dot_out (.inl h) xs ys hb
        rw [← hd.1, ← hd.2]
        refine lcl3 sound18 (dn_none_neg hb s 0 0 0 0 0 0 0 (0, 0) 0 [] 0 (0, 0) 0 []) (fun i b hib => ?_) (cs_neg h) (memOK1 (Nat.le_of_ble_eq_true rfl) rfl) (hargs _ _ _ rfl rfl (by decide)) rfl E w hrel
        · obtain ⟨rfl, rfl⟩ := get1 hib
          exact ⟨.inl ⟨rfl, rfl⟩, by decide, rfl⟩
      · have hd := dot_out (.inr h) xs ys hb
        rw [← hd.1, ← hd.2]
        refine lcl3 sound18 (dn_none_big hb s 0 0 0 0 0 0 0 (0, 0) 0 [] 0 (0, 0) 0 []) (fun i b hib => ?_) (cs_big h) (memOK1 (Nat.le_of_ble_eq_true rfl) rfl) (hargs _ _ _ rfl rfl (by decide)) rfl E w hrel
        · obtain ⟨rfl, rfl⟩ := get1 hib
          exact ⟨.inl ⟨rfl, rfl⟩, by decide, rfl⟩
      · have hd := dot_nil (s := s) (xs := xs) (ys := ys) (.inl hx) hb
        rw [← hd.1, ← hd.2]
        refine lcl3 sound18 (dn_none_in hb s 0 0 0 0 0 0 0 (0, 0) 0 [] 0 (0, 0) 0 []) (fun i b hib => ?_) (cs_in (decide_eq_false (by (repeat' split) <;> omega)) h0 h1) (memOK1 (Nat.le_of_ble_eq_true rfl) rfl) (hargs _ _ _ rfl rfl (by decide)) rfl E w hrel
        · obtain ⟨rfl, rfl⟩ := get1 hib
          exact ⟨.inl ⟨rfl, rfl⟩, by decide, rfl⟩

def S21 : FuncId → Option SumK := more S18 55 (acSum 27 1 fdotS)
theorem sound21 : Sound Try.prog S21 := sound18.more sumDot
end Go.Proofs.Ythfanchjkkeejaa

/- The local evaluator: summaries of closures over a flag's pointer, and over numbers. -/
namespace Go.Lr
open Go.RowKit

section
variable {P : Program} {S : FuncId → Option SumK} {z : Md}

/-- Plain values, then the pointers that a closure holds. -/
def capsOf : List LV → Option (List LV × List Nat)
  | [] => some ([], [])
  | .v (.one (.ptr b 0)) :: l => match capsOf l with
    | some ([], r) => some ([], b :: r)
    | _ => none
  | x :: l => match x.ok noP with
    | true => match capsOf l with
      | some (p, r) => some (x :: p, r)
      | none => none
    | false => none
def ptrsL : List Nat → List LV
  | [] => []
  | b :: l => .v (.one (.ptr b 0)) :: ptrsL l

theorem capsOf_spec : ∀ {args pl : List LV} {r : List Nat}, capsOf args = some (pl, r) → args = pl ++ ptrsL r ∧ plainVs pl = true := by
  intro args
  induction args with
  | nil => intro pl r h; simp only [capsOf] at h; cases h; exact ⟨rfl, rfl⟩
  | cons x l ih =>
    intro pl r h
    unfold capsOf at h
    split at h
    · rename_i e; cases e
    · rename_i b l' e
      cases e
      split at h
      · rename_i r' hr
        cases h
        obtain ⟨i1, -⟩ := ih hr
        exact ⟨by rw [i1]; rfl, rfl⟩
      · cases h
    · rename_i x' l' _ e
      cases e
      split at h
      · rename_i hx
        split at h
        · rename_i p r' hr
          cases h
          obtain ⟨i1, i2⟩ := ih hr
          exact ⟨by rw [i1]; rfl, by simp only [plainVs, hx, i2]⟩
        · cases h
      · cases h

/-- The flag's pointer's cell, and what it points to. -/
def isCell (k : Blk) (c : Nat) : Bool :=
  match k.cells with
  | [.ptr b 0] => Nat.beq b c
  | _ => false

theorem isCell_spec {k : Blk} {c : Nat} (h : isCell k c = true) : k.cells = [.ptr c 0] := by
  unfold isCell at h
  split at h
  · rename_i b hb
    rw [nbeq] at h
    have : b = c := by simpa using h
    subst this; exact hb
  · cases h

/-- A closure over a flag's pointer, and maybe over numbers: the plain arguments, the cells of the numbers, the flag. -/
def clSum (ty : TypeId) (F : List LV → List (List At) → Bool → Option (LV × Bool × List (Bool × Bool))) : List LV → List (Nat × LV) → Option Tch := fun args pk =>
  match capsOf args, pk with
  | some (pl, cc :: rest), [(_, .v (.one (.ptr acc 0)))] => match memB (cc :: rest) acc, memB rest cc with
    | false, false => match rest with
      | [] => some ⟨[cc], [acc], fun rdB wB _ => match rdB, wB with
        | [kc], [⟨t, (0, 0), 0, [.bool h]⟩] => match Nat.beq t ty, isCell kc acc with
          | true, true => match F pl [] h with
            | some (v, h', cs) => match v.ok noP with
              | true => some ⟨v, [flag ty h'], [], cs⟩
              | false => none
            | none => none
          | _, _ => none
        | _, _ => none⟩
      | [d] => some ⟨[cc, d], [acc], fun rdB wB _ => match rdB, wB with
        | [kc, kd], [⟨t, (0, 0), 0, [.bool h]⟩] => match Nat.beq t ty, isCell kc acc, okL noP kd.cells with
          | true, true, true => match F pl [kd.cells] h with
            | some (v, h', cs) => match v.ok noP with
              | true => some ⟨v, [flag ty h'], [], cs⟩
              | false => none
            | none => none
          | _, _, _ => none
        | _, _ => none⟩
      | _ => none
    | _, _ => none
  | _, _ => none

/-- From a local call to the summary's: the blocks' local numbers; blocks may hold pointers. -/
theorem call_upP {f : FuncId} (ho : Own P f) {args args' : List LV} {m m' : Mem} {ren : Nat → Nat} {g : Nat → Option Blk} {nb c : Nat} {ty : TypeId} {h h' : Bool} {v : LV} {E E1 : Env} {w : World}
    (hE : ∀ i, E1 i = E (ren i)) (hrel : Rel E g w) (hc : g c = some (flag ty h)) (h0 : getM m' 0 = some (flag ty h')) (hren0 : ren 0 = c)
    (hm : ∀ i b, getM m i = some b → ∃ b', g (ren i) = some b' ∧ b'.ty = b.ty ∧ b'.fr = b.fr ∧ b'.es = b.es ∧ b'.cells.map (At.den E) = b.cells.map (At.den E1))
    (hm' : ∀ i b, i ≠ 0 → getM m i = some b → getM m' i = some b)
    (hargs : args.map (LV.den E) = args'.map (LV.den E1)) (hv : v.ok noP = true)
    (hcall : Calls P f (args'.map (LV.den E1)).toArray w fun e w' => e = .returned (v.den E0) ∧ Lcl E1 m m' w w') :
    CallOK P f (args.map (LV.den E)).toArray w fun u w' => ∃ E', u = v.den E' ∧ Post w E g nb ⟨v, [(c, some (flag ty h'))], [], [], []⟩ E' w' := by
  obtain ⟨fn, f1, f2, f3⟩ := ho
  rw [hargs]
  refine .inl ⟨fn, f1, f2, f3, hcall.mono ?_⟩
  rintro e w' ⟨rfl, hl⟩
  refine ⟨_, rfl, E, (den_noP hv).symm, post_lcl hrel hc hl.os hl.tape hl.output hl.size ?_ (fun i b hi hib => ?_) fun b hb hne => hl.frame b hb fun i hi => ?_⟩
  · exact blkAt_ren (E := E1) (i := 0) rfl (by rw [hE, hren0]) (hl.blk 0 _ h0)
  · by_cases hex : ∃ j, (getM m j).isSome ∧ ren j = i
    · obtain ⟨j, hj, rfl⟩ := hex
      obtain ⟨b', hb'⟩ := Option.isSome_iff_exists.1 hj
      obtain ⟨b2, q1, q2, q3, q4, q5⟩ := hm j b' hb'
      have : b2 = b := by rw [hib] at q1; cases q1; rfl
      subst this
      have hj0 : j ≠ 0 := fun e => hi (by rw [e, hren0])
      obtain ⟨r, g1, g2, g3⟩ := hl.blk j _ (hm' j _ hj0 hb')
      have hlen : b2.cells.length = b'.cells.length := by
        have := congrArg List.length q5
        simpa using this
      exact ⟨r, by rw [← hE j, g1, q2, q3, q5], fun he => g2 (by rw [← q4]; exact he), fun he => by rw [hlen, q4, ← hE j]; exact g3 (by rw [← q4]; exact he)⟩
    · obtain ⟨r, g1, g2, g3⟩ := hrel.blk i b hib
      refine ⟨r, ?_, g2, g3⟩
      rw [hl.frame _ (Array.getElem?_eq_some_iff.1 g1).1 fun j hj e => hex ⟨j, hj, ?_⟩]
      · exact g1
      · obtain ⟨b', hb'⟩ := Option.isSome_iff_exists.1 hj
        obtain ⟨b2, q1, -⟩ := hm j b' hb'
        rw [hE] at e
        exact hrel.inj _ _ (by rw [q1]; rfl) (by rw [hib]; rfl) e
  · obtain ⟨b', hb'⟩ := Option.isSome_iff_exists.1 hi
    obtain ⟨b2, q1, -⟩ := hm i b' hb'
    rw [hE]
    exact hne _ (by rw [q1]; rfl)

theorem relP {E E1 : Env} {g : Nat → Option Blk} {w : World} {ren : Nat → Nat} {m : Mem} (hrel : Rel E g w) (hE : ∀ i, E1 i = E (ren i))
    (hm : ∀ i b, getM m i = some b → ∃ b', g (ren i) = some b' ∧ b'.ty = b.ty ∧ b'.fr = b.fr ∧ b'.es = b.es ∧ b'.cells.map (At.den E) = b.cells.map (At.den E1))
    (hi : ∀ i j, (getM m i).isSome → (getM m j).isSome → ren i = ren j → i = j) : Rel E1 (getM m) w := by
  refine ⟨fun i b hib => ?_, fun i j h1 h2 he => ?_⟩
  · obtain ⟨b', q1, q2, q3, q4, q5⟩ := hm i b hib
    obtain ⟨r, g1, g2, g3⟩ := hrel.blk _ _ q1
    have hlen : b'.cells.length = b.cells.length := by
      have := congrArg List.length q5
      simpa using this
    exact ⟨r, by rw [hE, g1, q2, q3, q5], fun hz => g2 (by rw [q4]; exact hz), fun hz => by rw [← hlen, ← q4, hE]; exact g3 (by rw [q4]; exact hz)⟩
  · obtain ⟨b1, e1⟩ := Option.isSome_iff_exists.1 h1
    obtain ⟨b2, e2⟩ := Option.isSome_iff_exists.1 h2
    obtain ⟨c1, q1, -⟩ := hm i b1 e1
    obtain ⟨c2, q2, -⟩ := hm j b2 e2
    rw [hE, hE] at he
    exact hi i j h1 h2 (hrel.inj _ _ (by rw [q1]; rfl) (by rw [q2]; rfl) he)

def PT (b : Nat) : LV := .v (.one (.ptr b 0))
def pcell (ty : TypeId) (fr : Nat × Nat) (es : Nat) : Blk := ⟨ty, fr, es, [.ptr 0 0]⟩

theorem clSum_ok {f : FuncId} (ho : Own P f) {ty : TypeId} {F : List LV → List (List At) → Bool → Option (LV × Bool × List (Bool × Bool))}
    (h1 : ∀ (pl : List LV) (hb : Bool) (v : LV) (h' : Bool) (cs : List (Bool × Bool)), F pl [] hb = some (v, h', cs) → (∀ c ∈ cs, c.1 = c.2) → plainVs pl = true → v.ok noP = true → ∀ (tc : TypeId) (fc : Nat × Nat) (ec : Nat) (E : Env) (w : World),
      Rel E (getM [(0, flag ty hb), (1, pcell tc fc ec)]) w → Calls P f ((pl ++ [PT 1]).map (LV.den E)).toArray w fun e w' => e = .returned (v.den E0) ∧ Lcl E [(0, flag ty hb), (1, pcell tc fc ec)] [(0, flag ty h'), (1, pcell tc fc ec)] w w')
    (h2 : ∀ (pl : List LV) (kd : Blk) (hb : Bool) (v : LV) (h' : Bool) (cs : List (Bool × Bool)), F pl [kd.cells] hb = some (v, h', cs) → (∀ c ∈ cs, c.1 = c.2) → plainVs pl = true → v.ok noP = true → okL noP kd.cells = true → ∀ (tc : TypeId) (fc : Nat × Nat) (ec : Nat) (E : Env) (w : World),
      Rel E (getM [(0, flag ty hb), (1, pcell tc fc ec), (2, kd)]) w → Calls P f ((pl ++ [PT 1, PT 2]).map (LV.den E)).toArray w fun e w' => e = .returned (v.den E0) ∧ Lcl E [(0, flag ty hb), (1, pcell tc fc ec), (2, kd)] [(0, flag ty h'), (1, pcell tc fc ec), (2, kd)] w w') :
    PeekOK P f (clSum ty F) := by
  intro args t g nb p rdB wrB ans ws E w hs hr hw _ hgo hz hc hrel hg hargs hn
  unfold clSum at hs
  split at hs
  · rename_i pl cc rest b0 acc hcap hpk
    obtain ⟨rfl, hpl⟩ := capsOf_spec hcap
    have hpl' := plainVs_iff.1 hpl
    split at hs
    · rename_i hm1 hm2
      have na : acc ∉ cc :: rest := memB_false hm1
      have nc : cc ∉ rest := memB_false hm2
      split at hs
      · cases hs
        simp only at hgo hw hr
        split at hgo
        · rename_i kc t' hb
          split at hgo
          · rename_i hty hcell
            rw [nbeq] at hty
            have hty' : t' = ty := by simpa using hty
            subst hty'
            have hkc := isCell_spec hcell
            split at hgo
            · rename_i v h' cs hF
              split at hgo
              · rename_i hv
                cases hgo
                obtain ⟨ka, r', hka, hr', hrr⟩ := liveAll_cons hw
                cases liveAll_nil hr'
                cases hrr
                obtain ⟨kc', r2, hkc', hr2, hrr2⟩ := liveAll_cons hr
                cases liveAll_nil hr2
                cases hrr2
                simp only [zipW] at hz
                cases hz
                have hf0 : (⟨t', (0, 0), 0, [.bool hb]⟩ : Blk) = flag t' hb := rfl
                rw [hf0] at hka
                generalize hE1 : (fun i => E (ren2 acc cc i)) = E1
                have hE : ∀ i, E1 i = E (ren2 acc cc i) := fun i => by rw [← hE1]
                have hm : ∀ i b, getM [(0, flag t' hb), (1, pcell kc.ty kc.fr kc.es)] i = some b → ∃ b', g (ren2 acc cc i) = some b' ∧ b'.ty = b.ty ∧ b'.fr = b.fr ∧ b'.es = b.es ∧ b'.cells.map (At.den E) = b.cells.map (At.den E1) := by
                  intro i b hib
                  rcases get2 hib with ⟨rfl, rfl⟩ | ⟨rfl, rfl⟩
                  · exact ⟨_, hka, rfl, rfl, rfl, rfl⟩
                  · refine ⟨_, hkc', rfl, rfl, rfl, ?_⟩
                    rw [hkc]
                    simp only [pcell, List.map_cons, List.map_nil, At.den, hE, ren2]
                have hcl := h1 pl hb v h' cs hF hc hpl hv kc.ty kc.fr kc.es E1 w (relP hrel hE hm fun i j hi hj he => by
                  obtain ⟨bi, hbi⟩ := Option.isSome_iff_exists.1 hi
                  obtain ⟨bj, hbj⟩ := Option.isSome_iff_exists.1 hj
                  have hne : acc ≠ cc := fun e => na (by rw [e]; simp)
                  rcases get2 hbi with ⟨rfl, -⟩ | ⟨rfl, -⟩ <;> rcases get2 hbj with ⟨rfl, -⟩ | ⟨rfl, -⟩
                  · rfl
                  · exact absurd he hne
                  · exact absurd he.symm hne
                  · rfl)
                refine call_upP ho hE hrel hka rfl rfl hm (fun i q h0 hq => ?_) ?_ hv hcl
                · rw [getM_cons, if_neg h0] at hq ⊢; exact hq
                · simp only [ptrsL, List.map_append, List.map_cons, List.map_nil]
                  rw [denL_noP hpl', denL_noP (E := E1) hpl']
                  simp only [PT, LV.den, V1.den, At.den, hE, ren2]
              · cases hgo
            · cases hgo
          · cases hgo
        · cases hgo
      · rename_i d
        cases hs
        simp only at hgo hw hr
        split at hgo
        · rename_i kc kd t' hb
          split at hgo
          · rename_i hty hcell hkd
            rw [nbeq] at hty
            have hty' : t' = ty := by simpa using hty
            subst hty'
            have hkc := isCell_spec hcell
            split at hgo
            · rename_i v h' cs hF
              split at hgo
              · rename_i hv
                cases hgo
                obtain ⟨ka, r', hka, hr', hrr⟩ := liveAll_cons hw
                cases liveAll_nil hr'
                cases hrr
                obtain ⟨kc', r2, hkc', hr2, hrr2⟩ := liveAll_cons hr
                cases hrr2
                obtain ⟨kd', r3, hkd', hr3, hrr3⟩ := liveAll_cons hr2
                cases liveAll_nil hr3
                cases hrr3
                simp only [zipW] at hz
                cases hz
                have hf0 : (⟨t', (0, 0), 0, [.bool hb]⟩ : Blk) = flag t' hb := rfl
                rw [hf0] at hka
                generalize hE1 : (fun i => E (ren3 acc cc d i)) = E1
                have hE : ∀ i, E1 i = E (ren3 acc cc d i) := fun i => by rw [← hE1]
                have hm : ∀ i b, getM [(0, flag t' hb), (1, pcell kc.ty kc.fr kc.es), (2, kd)] i = some b → ∃ b', g (ren3 acc cc d i) = some b' ∧ b'.ty = b.ty ∧ b'.fr = b.fr ∧ b'.es = b.es ∧ b'.cells.map (At.den E) = b.cells.map (At.den E1) := by
                  intro i b hib
                  rcases get3 hib with ⟨rfl, rfl⟩ | ⟨rfl, rfl⟩ | ⟨rfl, rfl⟩
                  · exact ⟨_, hka, rfl, rfl, rfl, rfl⟩
                  · refine ⟨_, hkc', rfl, rfl, rfl, ?_⟩
                    rw [hkc]
                    simp only [pcell, List.map_cons, List.map_nil, At.den, hE, ren3]
                  · exact ⟨_, hkd', rfl, rfl, rfl, by rw [denA_noP hkd, denA_noP (E := E1) hkd]⟩
                have hcl := h2 pl kd hb v h' cs hF hc hpl hv hkd kc.ty kc.fr kc.es E1 w (relP hrel hE hm fun i j hi hj he => by
                  obtain ⟨bi, hbi⟩ := Option.isSome_iff_exists.1 hi
                  obtain ⟨bj, hbj⟩ := Option.isSome_iff_exists.1 hj
                  have n1 : acc ≠ cc := fun e => na (by rw [e]; simp)
                  have n2 : acc ≠ d := fun e => na (by rw [e]; simp)
                  have n3 : cc ≠ d := fun e => nc (by rw [e]; simp)
                  rcases get3 hbi with ⟨rfl, -⟩ | ⟨rfl, -⟩ | ⟨rfl, -⟩ <;> rcases get3 hbj with ⟨rfl, -⟩ | ⟨rfl, -⟩ | ⟨rfl, -⟩
                  · rfl
                  · exact absurd he n1
                  · exact absurd he n2
                  · exact absurd he.symm n1
                  · rfl
                  · exact absurd he n3
                  · exact absurd he.symm n2
                  · exact absurd he.symm n3
                  · rfl)
                refine call_upP ho hE hrel hka rfl rfl hm (fun i q h0 hq => ?_) ?_ hv hcl
                · rw [getM_cons, if_neg h0] at hq ⊢; exact hq
                · simp only [ptrsL, List.map_append, List.map_cons, List.map_nil]
                  rw [denL_noP hpl', denL_noP (E := E1) hpl']
                  simp only [PT, LV.den, V1.den, At.den, hE, ren3]
              · cases hgo
            · cases hgo
          · cases hgo
        · cases hgo
      · cases hs
    · cases hs
  · cases hs

end
end Go.Lr

/- The closures of quat and rot: their runs, their summaries. -/
namespace Go.Proofs.Ythfanchjkkeejaa
open Go.Lr
set_option linter.unusedVariables false
set_option linter.unusedSimpArgs false

def C4 (a0 a1 a2 a3 : Int) : List At := [.int .i64 a0, .int .i64 a1, .int .i64 a2, .int .i64 a3]
def Q4 (a0 a1 a2 a3 : Int) : LV := .v (.agg [.int .i64 a0, .int .i64 a1, .int .i64 a2, .int .i64 a3])

/-- A closure over the flag's pointer and over four numbers, handed four numbers: a sum of products. -/
theorem cl4_ok {f : FuncId} (ho : Own Try.prog f) {ty : TypeId} {V : Int → Int → Int → Int → Int → Int → Int → Int → Int} {H : Int → Int → Int → Int → Int → Int → Int → Int → Bool} {S : FuncId → Option SumK} (hs : Sound Try.prog S) {n : Nat}
    {F : List LV → List (List At) → Bool → Option (LV × Bool × List (Bool × Bool))}
    (hF : ∀ pl cl hb r, F pl cl hb = some r → ∃ w x y z a0 a1 a2 a3, pl = [I w, I x, I y, I z] ∧ cl = [C4 a0 a1 a2 a3] ∧ r = (I (V w x y z a0 a1 a2 a3), hb || H w x y z a0 a1 a2 a3, []))
    (hr : ∀ w x y z a0 a1 a2 a3 hb tc fc ec td fd ed, (runF Try.prog S Zl n f [I w, I x, I y, I z, PT 1, PT 2] [(0, flag ty hb), (1, pcell tc fc ec), (2, ⟨td, fd, ed, C4 a0 a1 a2 a3⟩)] 3 []).map (fun r => (r.1, getM r.2.1 0, getM r.2.1 1, getM r.2.1 2, r.2.2.2)) =
      some (I (V w x y z a0 a1 a2 a3), some (flag ty (hb || H w x y z a0 a1 a2 a3)), some (pcell tc fc ec), some ⟨td, fd, ed, C4 a0 a1 a2 a3⟩, [])) : PeekOK Try.prog f (clSum ty F) := by
  refine clSum_ok ho (fun pl hb v h' cs hf _ _ _ => ?_) fun pl kd hb v h' cs hf hc _ _ hok tc fc ec E w hrel => ?_
  · obtain ⟨w, x, y, z, a0, a1, a2, a3, -, h, -⟩ := hF _ _ _ _ hf
    cases h
  · obtain ⟨w', x, y, z, a0, a1, a2, a3, rfl, h, h'⟩ := hF _ _ _ _ hf
    cases h'
    obtain ⟨td, fd, ed, l⟩ := kd
    simp only [List.cons.injEq, and_true] at h
    subst h
    refine lcl3 hs (hr w' x y z a0 a1 a2 a3 hb tc fc ec td fd ed) (fun i b hib => ?_) ae_nil rfl (fun u hu => ?_) rfl E w hrel
    · rcases get3 hib with ⟨rfl, rfl⟩ | ⟨rfl, rfl⟩ | ⟨rfl, rfl⟩
      · exact ⟨.inl ⟨rfl, rfl⟩, by decide, rfl⟩
      · exact ⟨.inr (.inl ⟨rfl, rfl⟩), by decide, rfl⟩
      · exact ⟨.inr (.inr ⟨rfl, rfl⟩), by decide, rfl⟩
    · simp only [List.cons_append, List.nil_append, List.mem_cons, List.not_mem_nil, or_false] at hu
      rcases hu with rfl | rfl | rfl | rfl | rfl | rfl <;> rfl

/-- A closure over the flag's pointer alone. -/
theorem cl0_ok {f : FuncId} (ho : Own Try.prog f) {ty : TypeId} {V : Int → Int → Int → Int → Int} {H : Int → Int → Int → Int → Bool} {S : FuncId → Option SumK} (hs : Sound Try.prog S) {n : Nat}
    {F : List LV → List (List At) → Bool → Option (LV × Bool × List (Bool × Bool))}
    (hF : ∀ pl cl hb r, F pl cl hb = some r → ∃ w x y z, pl = [I w, I x, I y, I z] ∧ cl = [] ∧ r = (I (V w x y z), hb || H w x y z, []))
    (hr : ∀ w x y z hb tc fc ec, (runF Try.prog S Zl n f [I w, I x, I y, I z, PT 1] [(0, flag ty hb), (1, pcell tc fc ec)] 2 []).map (fun r => (r.1, getM r.2.1 0, getM r.2.1 1, (none : Option Blk), r.2.2.2)) =
      some (I (V w x y z), some (flag ty (hb || H w x y z)), some (pcell tc fc ec), none, [])) : PeekOK Try.prog f (clSum ty F) := by
  refine clSum_ok ho (fun pl hb v h' cs hf hc _ _ tc fc ec E w hrel => ?_) fun pl kd hb v h' cs hf _ _ _ _ => ?_
  · obtain ⟨w', x, y, z, rfl, -, h'⟩ := hF _ _ _ _ hf
    cases h'
    have hq := hr w' x y z hb tc fc ec
    cases hrun : runF Try.prog S Zl n f [I w', I x, I y, I z, PT 1] [(0, flag ty hb), (1, pcell tc fc ec)] 2 [] with
    | none => rw [hrun] at hq; cases hq
    | some q =>
      obtain ⟨v', m2, nb', cs'⟩ := q
      rw [hrun] at hq
      simp only [Option.map_some, Option.some.injEq, Prod.mk.injEq, and_true, true_and] at hq
      obtain ⟨rfl, e0, e1, rfl⟩ := hq
      refine lcl_of_run hs hrun (fun i b hib => ?_) ae_nil rfl (fun u hu => ?_) rfl E w hrel
      · rcases get2 hib with ⟨rfl, rfl⟩ | ⟨rfl, rfl⟩
        · exact ⟨e0, by decide, rfl⟩
        · exact ⟨e1, by decide, rfl⟩
      · simp only [List.cons_append, List.nil_append, List.mem_cons, List.not_mem_nil, or_false] at hu
        rcases hu with rfl | rfl | rfl | rfl | rfl <;> rfl
  · obtain ⟨w, x, y, z, -, h, -⟩ := hF _ _ _ _ hf
    cases h

def q1V (w x y z a0 a1 a2 a3 : Int) : Int := dotV 30 [a0, a1, a2, a3] [w, x, y, z]
def q1H (w x y z a0 a1 a2 a3 : Int) : Bool := dotH 30 [a0, a1, a2, a3] [w, x, y, z]
def q1F : List LV → List (List At) → Bool → Option (LV × Bool × List (Bool × Bool))
  | [.v (.one (.int .i64 w)), .v (.one (.int .i64 x)), .v (.one (.int .i64 y)), .v (.one (.int .i64 z))], [[.int .i64 a0, .int .i64 a1, .int .i64 a2, .int .i64 a3]], hb => some (I (q1V w x y z a0 a1 a2 a3), hb || q1H w x y z a0 a1 a2 a3, [])
  | _, _, _ => none
def s1V (w x y z a0 a1 a2 a3 : Int) : Int := dotV 30 [a0, a1, a2, a3] [wr .i64 (w * a0), wr .i64 (x * a1), wr .i64 (y * a2), wr .i64 (z * a3)]
def s1H (w x y z a0 a1 a2 a3 : Int) : Bool := dotH 30 [a0, a1, a2, a3] [wr .i64 (w * a0), wr .i64 (x * a1), wr .i64 (y * a2), wr .i64 (z * a3)]
def s1F : List LV → List (List At) → Bool → Option (LV × Bool × List (Bool × Bool))
  | [.v (.one (.int .i64 w)), .v (.one (.int .i64 x)), .v (.one (.int .i64 y)), .v (.one (.int .i64 z))], [[.int .i64 a0, .int .i64 a1, .int .i64 a2, .int .i64 a3]], hb => some (I (s1V w x y z a0 a1 a2 a3), hb || s1H w x y z a0 a1 a2 a3, [])
  | _, _, _ => none
def t1V (a b d e : Int) : Int := dotV 30 [a, a, d, d] [b, b, e, e]
def t1H (a b d e : Int) : Bool := dotH 30 [a, a, d, d] [b, b, e, e]
def t1F : List LV → List (List At) → Bool → Option (LV × Bool × List (Bool × Bool))
  | [.v (.one (.int .i64 a)), .v (.one (.int .i64 b)), .v (.one (.int .i64 d)), .v (.one (.int .i64 e))], [], hb => some (I (t1V a b d e), hb || t1H a b d e, [])
  | _, _, _ => none

theorem sumQ1 : PeekOK Try.prog 79 (clSum 27 q1F) := by
  refine cl4_ok (n := 2000) (own_of sound21 Try.func79 (by kernel_rfl)) sound21 (V := q1V) (H := q1H) (fun pl cl hb r h => ?_) fun w x y z a0 a1 a2 a3 hb tc fc ec td fd ed => by kernel_rfl
  unfold q1F at h
  split at h
  · cases h; exact ⟨_, _, _, _, _, _, _, _, rfl, rfl, rfl⟩
  · cases h
theorem sumS1 : PeekOK Try.prog 108 (clSum 27 s1F) := by
  refine cl4_ok (n := 2000) (own_of sound21 Try.func108 (by kernel_rfl)) sound21 (V := s1V) (H := s1H) (fun pl cl hb r h => ?_) fun w x y z a0 a1 a2 a3 hb tc fc ec td fd ed => by kernel_rfl
  unfold s1F at h
  split at h
  · cases h; exact ⟨_, _, _, _, _, _, _, _, rfl, rfl, rfl⟩
  · cases h
theorem sumT1 : PeekOK Try.prog 109 (clSum 27 t1F) := by
  refine cl0_ok (n := 2000) (own_of sound21 Try.func109 (by kernel_rfl)) sound21 (V := t1V) (H := t1H) (fun pl cl hb r h => ?_) fun a b d e hb tc fc ec => by kernel_rfl
  unfold t1F at h
  split at h
  · cases h; exact ⟨_, _, _, _, rfl, rfl, rfl⟩
  · cases h
def S21q : FuncId → Option SumK := moreP S21 79 (clSum 27 q1F)
theorem sound21q : Sound Try.prog S21q := sound21.moreP sumQ1
def S22 : FuncId → Option SumK := moreP (moreP S21q 108 (clSum 27 s1F)) 109 (clSum 27 t1F)
theorem sound22 : Sound Try.prog S22 := (sound21q.moreP sumS1).moreP sumT1
end Go.Proofs.Ythfanchjkkeejaa

/- qsat, rof, qone: runs and summaries (printed). -/
namespace Go.Proofs.Ythfanchjkkeejaa
open Go.Lr
set_option linter.unusedVariables false
set_option linter.unusedSimpArgs false

theorem qsatR1 (a0 a1 a2 a3 : Int) (hb : Bool) : (runF Try.prog S22 Zl 2000 78 [A0, .v (.agg [.int .i64 a0, .int .i64 a1, .int .i64 a2, .int .i64 a3])] [(0, flag 27 hb)] 1 [none, none, none, none, none]).map acc3 = some (LV.v (V1.agg [At.int IntKind.i64 (satV a0), At.int IntKind.i64 (satV a1), At.int IntKind.i64 (satV a2), At.int IntKind.i64 (satV a3)]), some { ty := 27, fr := (0, 0), es := 0, cells := [At.bool (hb || satH a0 || satH a1 || satH a2 || satH a3)] }, []) := by kernel_rfl
def qsatT (a0 a1 a2 a3 : Int) (hb : Bool) : Option (LV × Bool × List (Bool × Bool)) := some (LV.v (V1.agg [At.int IntKind.i64 (satV a0), At.int IntKind.i64 (satV a1), At.int IntKind.i64 (satV a2), At.int IntKind.i64 (satV a3)]), (hb || satH a0 || satH a1 || satH a2 || satH a3), [])
def qsatF : List LV → Bool → Option (LV × Bool × List (Bool × Bool))
  | [.v (.agg [.int .i64 a0, .int .i64 a1, .int .i64 a2, .int .i64 a3])], hb => qsatT a0 a1 a2 a3 hb
  | _, _ => none
theorem sumqsat : SumOK Try.prog 78 (accSum 27 qsatF) := by
  refine accSum_run (z := Zl) sound22 (own_of sound22 Try.func78 (by kernel_rfl)) fun args hb v h' cs hF hc => ?_
  unfold qsatF at hF
  split at hF
  · rename_i a0 a1 a2 a3
    unfold qsatT at hF
    cases hF
    exact ⟨rfl, 2000, [none, none, none, none, none], _, qsatR1 a0 a1 a2 a3 hb, ae_nil⟩
  · cases hF

theorem rofR1 (a0 a1 a2 a3 : Int) (hb : Bool) : (runF Try.prog S22 Zl 2000 54 [A0, .v (.agg [.int .i64 a0, .int .i64 a1, .int .i64 a2, .int .i64 a3])] [(0, flag 27 hb)] 1 [none, none, none, none, none]).map acc3 = some (LV.v (V1.agg [At.int IntKind.i64 (s1V 1 1 (-1) (-1) (satV a0) (satV a1) (satV a2) (satV a3)), At.int IntKind.i64 (t1V (satV a1) (satV a2) (wr IntKind.i64 (0 - satV a0)) (satV a3)), At.int IntKind.i64 (t1V (satV a1) (satV a3) (satV a0) (satV a2)), At.int IntKind.i64 (t1V (satV a1) (satV a2) (satV a0) (satV a3)), At.int IntKind.i64 (s1V 1 (-1) 1 (-1) (satV a0) (satV a1) (satV a2) (satV a3)), At.int IntKind.i64 (t1V (satV a2) (satV a3) (wr IntKind.i64 (0 - satV a0)) (satV a1)), At.int IntKind.i64 (t1V (satV a1) (satV a3) (wr IntKind.i64 (0 - satV a0)) (satV a2)), At.int IntKind.i64 (t1V (satV a2) (satV a3) (satV a0) (satV a1)), At.int IntKind.i64 (s1V 1 (-1) (-1) 1 (satV a0) (satV a1) (satV a2) (satV a3))]), some { ty := 27, fr := (0, 0), es := 0, cells := [At.bool (hb || satH a0 || satH a1 || satH a2 || satH a3 || s1H 1 1 (-1) (-1) (satV a0) (satV a1) (satV a2) (satV a3) || t1H (satV a1) (satV a2) (wr IntKind.i64 (0 - satV a0)) (satV a3) || t1H (satV a1) (satV a3) (satV a0) (satV a2) || t1H (satV a1) (satV a2) (satV a0) (satV a3) || s1H 1 (-1) 1 (-1) (satV a0) (satV a1) (satV a2) (satV a3) || t1H (satV a2) (satV a3) (wr IntKind.i64 (0 - satV a0)) (satV a1) || t1H (satV a1) (satV a3) (wr IntKind.i64 (0 - satV a0)) (satV a2) || t1H (satV a2) (satV a3) (satV a0) (satV a1) || s1H 1 (-1) (-1) 1 (satV a0) (satV a1) (satV a2) (satV a3))] }, []) := by kernel_rfl
def rofT (a0 a1 a2 a3 : Int) (hb : Bool) : Option (LV × Bool × List (Bool × Bool)) := some (LV.v (V1.agg [At.int IntKind.i64 (s1V 1 1 (-1) (-1) (satV a0) (satV a1) (satV a2) (satV a3)), At.int IntKind.i64 (t1V (satV a1) (satV a2) (wr IntKind.i64 (0 - satV a0)) (satV a3)), At.int IntKind.i64 (t1V (satV a1) (satV a3) (satV a0) (satV a2)), At.int IntKind.i64 (t1V (satV a1) (satV a2) (satV a0) (satV a3)), At.int IntKind.i64 (s1V 1 (-1) 1 (-1) (satV a0) (satV a1) (satV a2) (satV a3)), At.int IntKind.i64 (t1V (satV a2) (satV a3) (wr IntKind.i64 (0 - satV a0)) (satV a1)), At.int IntKind.i64 (t1V (satV a1) (satV a3) (wr IntKind.i64 (0 - satV a0)) (satV a2)), At.int IntKind.i64 (t1V (satV a2) (satV a3) (satV a0) (satV a1)), At.int IntKind.i64 (s1V 1 (-1) (-1) 1 (satV a0) (satV a1) (satV a2) (satV a3))]), (hb || satH a0 || satH a1 || satH a2 || satH a3 || s1H 1 1 (-1) (-1) (satV a0) (satV a1) (satV a2) (satV a3) || t1H (satV a1) (satV a2) (wr IntKind.i64 (0 - satV a0)) (satV a3) || t1H (satV a1) (satV a3) (satV a0) (satV a2) || t1H (satV a1) (satV a2) (satV a0) (satV a3) || s1H 1 (-1) 1 (-1) (satV a0) (satV a1) (satV a2) (satV a3) || t1H (satV a2) (satV a3) (wr IntKind.i64 (0 - satV a0)) (satV a1) || t1H (satV a1) (satV a3) (wr IntKind.i64 (0 - satV a0)) (satV a2) || t1H (satV a2) (satV a3) (satV a0) (satV a1) || s1H 1 (-1) (-1) 1 (satV a0) (satV a1) (satV a2) (satV a3)), [])
def rofF : List LV → Bool → Option (LV × Bool × List (Bool × Bool))
  | [.v (.agg [.int .i64 a0, .int .i64 a1, .int .i64 a2, .int .i64 a3])], hb => rofT a0 a1 a2 a3 hb
  | _, _ => none
theorem sumrof : SumOK Try.prog 54 (accSum 27 rofF) := by
  refine accSum_run (z := Zl) sound22 (own_of sound22 Try.func54 (by kernel_rfl)) fun args hb v h' cs hF hc => ?_
  unfold rofF at hF
  split at hF
  · rename_i a0 a1 a2 a3
    unfold rofT at hF
    cases hF
    exact ⟨rfl, 2000, [none, none, none, none, none], _, rofR1 a0 a1 a2 a3 hb, ae_nil⟩
  · cases hF

theorem qoneR1  : (runF Try.prog S22 Zl 2000 21 [] [] 0 []).map (fun r => (r.1, r.2.2.2)) = some (LV.v (V1.agg [At.int IntKind.i64 1073741824, At.int IntKind.i64 0, At.int IntKind.i64 0, At.int IntKind.i64 0]), []) := by kernel_rfl
def qoneT  : Option (LV × List (Bool × Bool)) := some (LV.v (V1.agg [At.int IntKind.i64 1073741824, At.int IntKind.i64 0, At.int IntKind.i64 0, At.int IntKind.i64 0]), [])
def qoneF : List LV → Option (LV × List (Bool × Bool))
  | [] => qoneT 
  | _ => none
theorem sumqone : SumOK Try.prog 21 (pureSum qoneF) := by
  refine pureSum_run (z := Zl) sound22 (own_of sound22 Try.func21 (by kernel_rfl)) fun args v cs hF hc => ?_
  unfold qoneF at hF
  split at hF
  · unfold qoneT at hF
    cases hF
    exact ⟨2000, [], _, qoneR1 , ae_nil⟩
  · cases hF

def S23 : FuncId → Option SumK := (more (more (more S22 78 (accSum 27 qsatF)) 54 (accSum 27 rofF)) 21 (pureSum qoneF))
theorem sound23 : Sound Try.prog S23 := (((sound22.more sumqsat).more sumrof).more sumqone)
end Go.Proofs.Ythfanchjkkeejaa

/- Summaries that the evaluator makes by running the callee. -/
namespace Go.Proofs.Ythfanchjkkeejaa
open Go.Lr

noncomputable def T0 : FuncId → Option SumK := S23
theorem soundT0 : Sound Try.prog T0 := sound23
noncomputable def T1 : FuncId → Option SumK := more T0 126 (autoP Try.prog T0 Zl 2000 126)
theorem soundT1 : Sound Try.prog T1 := soundT0.more (autoP_ok soundT0 (own_of soundT0 Try.func126 (by kernel_rfl)))
noncomputable def T2 : FuncId → Option SumK := T1
theorem soundT2 : Sound Try.prog T2 := soundT1
noncomputable def T3 : FuncId → Option SumK := more T2 118 (autoP Try.prog T2 Zl 2000 118)
theorem soundT3 : Sound Try.prog T3 := soundT2.more (autoP_ok soundT2 (own_of soundT2 Try.func118 (by kernel_rfl)))
noncomputable def T4 : FuncId → Option SumK := T3
theorem soundT4 : Sound Try.prog T4 := soundT3
noncomputable def T5 : FuncId → Option SumK := more T4 76 (autoP Try.prog T4 Zl 2000 76)
theorem soundT5 : Sound Try.prog T5 := soundT4.more (autoP_ok soundT4 (own_of soundT4 Try.func76 (by kernel_rfl)))
noncomputable def T6 : FuncId → Option SumK := more T5 72 (autoP Try.prog T5 Zl 2000 72)
theorem soundT6 : Sound Try.prog T6 := soundT5.more (autoP_ok soundT5 (own_of soundT5 Try.func72 (by kernel_rfl)))
noncomputable def T7 : FuncId → Option SumK := more T6 69 (autoP Try.prog T6 Zl 2000 69)
theorem soundT7 : Sound Try.prog T7 := soundT6.more (autoP_ok soundT6 (own_of soundT6 Try.func69 (by kernel_rfl)))
noncomputable def T8 : FuncId → Option SumK := T7
theorem soundT8 : Sound Try.prog T8 := soundT7
noncomputable def T9 : FuncId → Option SumK := T8
theorem soundT9 : Sound Try.prog T9 := soundT8
noncomputable def T10 : FuncId → Option SumK := more T9 90 (autoM Try.prog T9 Zl 2000 90)
theorem soundT10 : Sound Try.prog T10 := soundT9.more (autoM_ok soundT9 (own_of soundT9 Try.func90 (by kernel_rfl)))
noncomputable def T11 : FuncId → Option SumK := more T10 27 (autoP Try.prog T10 Zl 2000 27)
theorem soundT11 : Sound Try.prog T11 := soundT10.more (autoP_ok soundT10 (own_of soundT10 Try.func27 (by kernel_rfl)))
noncomputable def T12 : FuncId → Option SumK := more T11 32 (autoP Try.prog T11 Zl 2000 32)
theorem soundT12 : Sound Try.prog T12 := soundT11.more (autoP_ok soundT11 (own_of soundT11 Try.func32 (by kernel_rfl)))
noncomputable def T13 : FuncId → Option SumK := more T12 22 (autoM Try.prog T12 Zl 2000 22)
theorem soundT13 : Sound Try.prog T13 := soundT12.more (autoM_ok soundT12 (own_of soundT12 Try.func22 (by kernel_rfl)))
noncomputable def T14 : FuncId → Option SumK := more T13 26 (autoM Try.prog T13 Zl 2000 26)
theorem soundT14 : Sound Try.prog T14 := soundT13.more (autoM_ok soundT13 (own_of soundT13 Try.func26 (by kernel_rfl)))
noncomputable def T15 : FuncId → Option SumK := more T14 24 (autoM Try.prog T14 Zl 2000 24)
theorem soundT15 : Sound Try.prog T15 := soundT14.more (autoM_ok soundT14 (own_of soundT14 Try.func24 (by kernel_rfl)))
noncomputable def T16 : FuncId → Option SumK := more T15 114 (autoM Try.prog T15 Zl 2000 114)
theorem soundT16 : Sound Try.prog T16 := soundT15.more (autoM_ok soundT15 (own_of soundT15 Try.func114 (by kernel_rfl)))
noncomputable def T17 : FuncId → Option SumK := more T16 71 (autoM Try.prog T16 Zl 2000 71)
theorem soundT17 : Sound Try.prog T17 := soundT16.more (autoM_ok soundT16 (own_of soundT16 Try.func71 (by kernel_rfl)))
noncomputable def T18 : FuncId → Option SumK := T17
theorem soundT18 : Sound Try.prog T18 := soundT17
noncomputable def T19 : FuncId → Option SumK := T18
theorem soundT19 : Sound Try.prog T19 := soundT18
noncomputable def T20 : FuncId → Option SumK := more T19 16 (autoM Try.prog T19 Zl 2000 16)
theorem soundT20 : Sound Try.prog T20 := soundT19.more (autoM_ok soundT19 (own_of soundT19 Try.func16 (by kernel_rfl)))
noncomputable def T21 : FuncId → Option SumK := T20
theorem soundT21 : Sound Try.prog T21 := soundT20
noncomputable def T22 : FuncId → Option SumK := more T21 59 (autoM Try.prog T21 Zl 2000 59)
theorem soundT22 : Sound Try.prog T22 := soundT21.more (autoM_ok soundT21 (own_of soundT21 Try.func59 (by kernel_rfl)))
noncomputable def T23 : FuncId → Option SumK := more T22 57 (autoM Try.prog T22 Zl 2000 57)
theorem soundT23 : Sound Try.prog T23 := soundT22.more (autoM_ok soundT22 (own_of soundT22 Try.func57 (by kernel_rfl)))
noncomputable def T24 : FuncId → Option SumK := more T23 50 (autoP Try.prog T23 Zl 2000 50)
theorem soundT24 : Sound Try.prog T24 := soundT23.more (autoP_ok soundT23 (own_of soundT23 Try.func50 (by kernel_rfl)))
noncomputable def T25 : FuncId → Option SumK := more T24 101 (autoM Try.prog T24 Zl 2000 101)
theorem soundT25 : Sound Try.prog T25 := soundT24.more (autoM_ok soundT24 (own_of soundT24 Try.func101 (by kernel_rfl)))
noncomputable def T26 : FuncId → Option SumK := more T25 42 (autoM Try.prog T25 Zl 2000 42)
theorem soundT26 : Sound Try.prog T26 := soundT25.more (autoM_ok soundT25 (own_of soundT25 Try.func42 (by kernel_rfl)))
noncomputable def T27 : FuncId → Option SumK := more T26 44 (autoM Try.prog T26 Zl 2000 44)
theorem soundT27 : Sound Try.prog T27 := soundT26.more (autoM_ok soundT26 (own_of soundT26 Try.func44 (by kernel_rfl)))
noncomputable def T28 : FuncId → Option SumK := more T27 46 (autoM Try.prog T27 Zl 2000 46)
theorem soundT28 : Sound Try.prog T28 := soundT27.more (autoM_ok soundT27 (own_of soundT27 Try.func46 (by kernel_rfl)))
noncomputable def T29 : FuncId → Option SumK := more T28 48 (autoM Try.prog T28 Zl 2000 48)
theorem soundT29 : Sound Try.prog T29 := soundT28.more (autoM_ok soundT28 (own_of soundT28 Try.func48 (by kernel_rfl)))
noncomputable def T30 : FuncId → Option SumK := more T29 17 (autoM Try.prog T29 Zl 2000 17)
theorem soundT30 : Sound Try.prog T30 := soundT29.more (autoM_ok soundT29 (own_of soundT29 Try.func17 (by kernel_rfl)))
noncomputable def T31 : FuncId → Option SumK := more T30 18 (autoM Try.prog T30 Zl 2000 18)
theorem soundT31 : Sound Try.prog T31 := soundT30.more (autoM_ok soundT30 (own_of soundT30 Try.func18 (by kernel_rfl)))
noncomputable def T32 : FuncId → Option SumK := more T31 19 (autoM Try.prog T31 Zl 2000 19)
theorem soundT32 : Sound Try.prog T32 := soundT31.more (autoM_ok soundT31 (own_of soundT31 Try.func19 (by kernel_rfl)))
noncomputable def T33 : FuncId → Option SumK := more T32 61 (autoM Try.prog T32 Zl 2000 61)
theorem soundT33 : Sound Try.prog T33 := soundT32.more (autoM_ok soundT32 (own_of soundT32 Try.func61 (by kernel_rfl)))
noncomputable def T34 : FuncId → Option SumK := more T33 63 (autoM Try.prog T33 Zl 2000 63)
theorem soundT34 : Sound Try.prog T34 := soundT33.more (autoM_ok soundT33 (own_of soundT33 Try.func63 (by kernel_rfl)))
noncomputable def T35 : FuncId → Option SumK := more T34 65 (autoM Try.prog T34 Zl 2000 65)
theorem soundT35 : Sound Try.prog T35 := soundT34.more (autoM_ok soundT34 (own_of soundT34 Try.func65 (by kernel_rfl)))
noncomputable def T36 : FuncId → Option SumK := more T35 66 (autoM Try.prog T35 Zl 2000 66)
theorem soundT36 : Sound Try.prog T36 := soundT35.more (autoM_ok soundT35 (own_of soundT35 Try.func66 (by kernel_rfl)))
noncomputable def T37 : FuncId → Option SumK := T36
theorem soundT37 : Sound Try.prog T37 := soundT36
noncomputable def T38 : FuncId → Option SumK := T37
theorem soundT38 : Sound Try.prog T38 := soundT37
noncomputable def T39 : FuncId → Option SumK := T38
theorem soundT39 : Sound Try.prog T39 := soundT38
noncomputable def T40 : FuncId → Option SumK := T39
theorem soundT40 : Sound Try.prog T40 := soundT39
noncomputable def T41 : FuncId → Option SumK := T40
theorem soundT41 : Sound Try.prog T41 := soundT40
noncomputable def S24 : FuncId → Option SumK := T41
theorem sound24 : Sound Try.prog S24 := soundT41
end Go.Proofs.Ythfanchjkkeejaa

/- The law folder's awake, of chapter 22: its run. -/
namespace Go.Proofs.Ythfanchjkkeejaa
open Go.Lr
theorem runAwakeW : (runF Try.prog S24 Zc 4000 15 [] [] 0 []).map (fun r => (r.1, r.2.2.2)) = some (B true, []) := by kernel_rfl
theorem sumAwakeW : SumOK Try.prog 15 (pureSum trueF) := pureSum_const sound24 (own_of sound24 Try.func15 (by kernel_rfl)) runAwakeW
noncomputable def S32 : FuncId → Option SumK := more T30 15 (pureSum trueF)
theorem sound32 : Sound Try.prog S32 := soundT30.more sumAwakeW
end Go.Proofs.Ythfanchjkkeejaa

/- Facts of rounding, dividing, roots, clamping: plain. -/
namespace Go.Proofs.Ythfanchjkkeejaa
open Go.Lr
set_option linter.unusedVariables false

theorem sat_mono {a b : Int} (h : a ≤ b) : satV a ≤ satV b := by
  unfold satV clampV; (repeat' split) <;> omega
theorem sat_odd (a : Int) : satV (-a) = -satV a := by
  unfold satV clampV; (repeat' split) <;> omega
theorem satH_iff {a : Int} : satH a = false ↔ -1152921504606846976 ≤ a ∧ a ≤ 1152921504606846976 := by
  constructor
  · intro h
    by_cases h1 : a < -1152921504606846976 ∨ 1152921504606846976 < a
    · rw [satH_out h1] at h; cases h
    · omega
  · exact fun h => satH_in h.1 h.2
theorem sat_sat (a : Int) : satV (satV a) = satV a := by have := sat_bd a; exact sat_in this.1 this.2
theorem satH_sat (a : Int) : satH (satV a) = false := by have := sat_bd a; exact satH_in this.1 this.2

theorem rnd_pos {w : Int} (h : 0 ≤ w) (s : Nat) : rndV w s = (w + halfP s) / pow2 s := by
  unfold rndV sgn
  rw [absV_pos h]
  have : ¬ w < 0 := by omega
  simp [this]
theorem rnd_neg {w : Int} (h : w ≤ 0) (s : Nat) : rndV w s = -((-w + halfP s) / pow2 s) := by
  by_cases h0 : w = 0
  · subst h0
    rw [rnd_pos (Int.le_refl 0)]
    have h1 := halfP_le s
    have h2 := pow2_pos s
    have h3 : halfP s < pow2 s := by
      cases s with
      | zero => decide
      | succ n => have := pow2_pos n; show pow2 n < _; rw [pow2_succ]; omega
    have e : (0 + halfP s) / pow2 s = 0 := Int.ediv_eq_zero_of_lt (by omega) (by omega)
    rw [e, Int.neg_zero, e, Int.neg_zero]
  · unfold rndV sgn
    rw [absV_neg h]
    have : w < 0 := by omega
    simp [this]
theorem rnd_odd (w : Int) (s : Nat) : rndV (-w) s = -rndV w s := by
  by_cases h : 0 ≤ w
  · rw [rnd_neg (by omega), rnd_pos h, Int.neg_neg]
  · rw [rnd_pos (by omega), rnd_neg (w := w) (by omega), Int.neg_neg]
theorem rnd_mono {v w : Int} (h : v ≤ w) (s : Nat) : rndV v s ≤ rndV w s := by
  have hp := pow2_pos s
  have hh := (halfP_le s).1
  by_cases h0 : 0 ≤ v
  · rw [rnd_pos h0, rnd_pos (by omega)]
    exact Int.ediv_le_ediv hp (by omega)
  · by_cases h1 : 0 ≤ w
    · rw [rnd_neg (by omega), rnd_pos h1]
      have a := Int.ediv_nonneg (a := -v + halfP s) (b := pow2 s) (by omega) (by omega)
      have b := Int.ediv_nonneg (a := w + halfP s) (b := pow2 s) (by omega) (by omega)
      omega
    · rw [rnd_neg (by omega), rnd_neg (by omega)]
      have := Int.ediv_le_ediv (a := -w + halfP s) (b := -v + halfP s) hp (by omega)
      omega
theorem halfP_two (s : Nat) : 2 * halfP s ≤ pow2 s ∧ (s = 0 ∧ halfP s = 0 ∧ pow2 s = 1 ∨ 2 * halfP s = pow2 s) := by
  cases s with
  | zero => exact ⟨by decide, .inl ⟨rfl, rfl, rfl⟩⟩
  | succ n => rw [pow2_succ]; exact ⟨Int.le_refl _, .inr rfl⟩
theorem rnd_bd (w : Int) (s : Nat) : -(pow2 s) ≤ 2 * (rndV w s * pow2 s - w) ∧ 2 * (rndV w s * pow2 s - w) ≤ pow2 s := by
  have hp := pow2_pos s
  have hh := halfP_two s
  have h1 := (halfP_le s).1
  have key : ∀ u : Int, 0 ≤ u → -(pow2 s) ≤ 2 * ((u + halfP s) / pow2 s * pow2 s - u) ∧ 2 * ((u + halfP s) / pow2 s * pow2 s - u) ≤ pow2 s := by
    intro u hu
    have e := Int.emod_add_mul_ediv (u + halfP s) (pow2 s)
    have a := Int.emod_nonneg (u + halfP s) (show pow2 s ≠ 0 by omega)
    have b := Int.emod_lt_of_pos (u + halfP s) hp
    rw [Int.mul_comm (pow2 s)] at e
    generalize (u + halfP s) / pow2 s * pow2 s = q at *
    generalize (u + halfP s) % pow2 s = r at *
    omega
  by_cases h : 0 ≤ w
  · rw [rnd_pos h]; exact key w h
  · rw [rnd_neg (by omega)]
    have := key (-w) (by omega)
    rw [Int.neg_mul]
    omega

theorem quo_bd {a b : Int} (ha : 0 ≤ a) (hb : 0 < b) : -b ≤ 2 * (quoR a b * b - a) ∧ 2 * (quoR a b * b - a) ≤ b := by
  have e := Int.emod_add_mul_ediv a b
  have h0 := Int.emod_nonneg a (show b ≠ 0 by omega)
  have h1 := Int.emod_lt_of_pos a hb
  rw [Int.mul_comm b] at e
  unfold quoR
  split
  · have e2 : (a / b + 1) * b = a / b * b + b := by grind
    rw [e2]; omega
  · omega
theorem div_pos {a b : Int} (ha : 0 ≤ a) (hb : 0 < b) : divV a b = quoR a b := by
  unfold divV
  rw [absV_pos ha, absV_pos (by omega)]
  have h1 : ¬ a < 0 := by omega
  have h2 : ¬ b < 0 := by omega
  simp [h1, h2, sgn]
theorem div_exact (k d : Int) (hd : d ≠ 0) : divV (k * d) d = k := by
  have hq : ∀ x y : Int, 0 < y → quoR (x * y) y = x := by
    intro x y hy
    unfold quoR
    rw [Int.mul_emod_left, Int.mul_ediv_cancel _ (by omega), if_neg (by omega)]
  have hd0 : 0 < absV d := by unfold absV; split <;> omega
  unfold divV
  rw [absV_mul, hq _ _ hd0]
  have hs := sgn_abs k
  by_cases hk : k = 0
  · subst hk; simp [absV, sgn]
  · by_cases h1 : k < 0 <;> by_cases h2 : d < 0
    · have : ¬ k * d < 0 := by have := Int.mul_pos_of_neg_of_neg h1 h2; omega
      simp [this, h1, h2] at hs ⊢; exact hs
    · have : k * d < 0 := Int.mul_neg_of_neg_of_pos h1 (by omega)
      simp [this, h1, h2] at hs ⊢; exact hs
    · have : k * d < 0 := Int.mul_neg_of_pos_of_neg (by omega) h2
      simp [this, h1, h2] at hs ⊢; exact hs
    · have : ¬ k * d < 0 := by have := Int.mul_pos (show 0 < k by omega) (show 0 < d by omega); omega
      simp [this, h1, h2] at hs ⊢; exact hs

/-- Roots: bounds, order. -/
theorem root_le {N m : Int} (h0 : 0 ≤ N) (h1 : N < 340282366920938463463374607431768211456) (hm : 0 ≤ m) (h : N ≤ m * m + m) : rootW N ≤ m := by
  obtain ⟨a, b, c⟩ := rootW_spec h0 h1
  generalize rootW N = r at *
  rcases Int.lt_or_le m r with hlt | hle
  · exfalso
    rcases c with rfl | c
    · omega
    · have e : r * r - r = r * (r - 1) := by grind
      have : (m + 1) * m ≤ r * (r - 1) := Int.mul_le_mul (by omega) (by omega) hm a
      have e2 : (m + 1) * m = m * m + m := by grind
      omega
  · exact hle
theorem root_ge {N m : Int} (h0 : 0 ≤ N) (h1 : N < 340282366920938463463374607431768211456) (h : m ≤ 0 ∨ m * m - m < N) : m ≤ rootW N := by
  obtain ⟨a, b, c⟩ := rootW_spec h0 h1
  generalize rootW N = r at *
  rcases h with h | h
  · omega
  · rcases Int.lt_or_le r m with hlt | hle
    · exfalso
      have e : r * r + r = r * (r + 1) := by grind
      have : r * (r + 1) ≤ (m - 1) * m := Int.mul_le_mul (by omega) (by omega) (by omega) (by omega)
      have e2 : (m - 1) * m = m * m - m := by grind
      omega
    · exact hle
theorem root_mono {M N : Int} (h0 : 0 ≤ M) (h1 : N < 340282366920938463463374607431768211456) (h : M ≤ N) : rootW M ≤ rootW N := by
  obtain ⟨a, b, c⟩ := rootW_spec (N := N) (by omega) h1
  exact root_le h0 (by omega) a (by omega)
end Go.Proofs.Ythfanchjkkeejaa

/- The law AirExpected: its runs, and why they answer true. -/
namespace Go.Proofs.Ythfanchjkkeejaa
open Go.Lr Go.RowKit
set_option linter.unusedVariables false
set_option linter.unusedSimpArgs false
set_option maxHeartbeats 4000000

theorem aeAL (s0 s1 s2 s3 s4 s5 s6 s7 s8 s9 s10 s11 s12 s13 s14 s15 s16 s17 s18 s19 s20 s21 s22 s23 ah r gt : Int) : (runF Try.prog S32 Zl 4000 3 [.v (.agg [.int .i64 s0, .int .i64 s1, .int .i64 s2, .int .i64 s3, .int .i64 s4, .int .i64 s5, .int .i64 s6, .int .i64 s7, .int .i64 s8, .int .i64 s9, .int .i64 s10, .int .i64 s11, .int .i64 s12, .int .i64 s13, .int .i64 s14, .int .i64 s15, .int .i64 s16, .int .i64 s17, .int .i64 s18, .int .i64 s19, .int .i64 s20, .int .i64 s21, .int .i64 s22, .int .i64 s23]), I ah, I r, I gt] [] 0 [none, none, none, none, none, none, none, none, none, none, none, none, none, none, none, none, none, none, none, none, none, none, some true, none, none, none, none, none, none, none, none, none, none, none, none, some false, some true, some true, some true, none]).map (fun r => (r.1, r.2.2.2)) = some (LV.v (V1.one (At.bool true)), [(decide (ah < 6442450944), true), (decide (ah < 6442450944), true), (decide (ah < 6442450944), true), (decide (hypV [subV (s4.tmod 68719476736) (s22.tmod 68719476736), subV (s5.tmod 68719476736) (s23.tmod 68719476736), subV (s6.tmod 68719476736) 0] ≥ 1073741824), false), (decide (hypV [subV (s4.tmod 68719476736) (s22.tmod 68719476736), subV (s5.tmod 68719476736) (s23.tmod 68719476736), subV (s6.tmod 68719476736) 0] < 1073741824), true)]) := by kernel_rfl
theorem aeAH (s0 s1 s2 s3 s4 s5 s6 s7 s8 s9 s10 s11 s12 s13 s14 s15 s16 s17 s18 s19 s20 s21 s22 s23 ah r gt : Int) : (runF Try.prog S32 Zl 4000 3 [.v (.agg [.int .i64 s0, .int .i64 s1, .int .i64 s2, .int .i64 s3, .int .i64 s4, .int .i64 s5, .int .i64 s6, .int .i64 s7, .int .i64 s8, .int .i64 s9, .int .i64 s10, .int .i64 s11, .int .i64 s12, .int .i64 s13, .int .i64 s14, .int .i64 s15, .int .i64 s16, .int .i64 s17, .int .i64 s18, .int .i64 s19, .int .i64 s20, .int .i64 s21, .int .i64 s22, .int .i64 s23]), I ah, I r, I gt] [] 0 [none, none, none, none, none, none, none, none, none, none, none, none, none, none, none, none, none, none, none, none, none, none, some true, none, none, none, none, none, none, none, none, none, none, none, none, some false, some false, some false, some false, some true]).map (fun r => (r.1, r.2.2.2)) = some (LV.v (V1.one (At.bool true)), [(decide (ah > 214748364800), true), (decide (ah < 6442450944), false), (decide (ah < 6442450944), false), (decide (ah < 6442450944), false), (decide (hypV [subV (s4.tmod 68719476736) (s22.tmod 68719476736), subV (s5.tmod 68719476736) (s23.tmod 68719476736), subV (s6.tmod 68719476736) 0] ≥ 1073741824), false), (decide (hypV [subV (s4.tmod 68719476736) (s22.tmod 68719476736), subV (s5.tmod 68719476736) (s23.tmod 68719476736), subV (s6.tmod 68719476736) 0] < 1073741824), true)]) := by kernel_rfl
theorem aeAM (s0 s1 s2 s3 s4 s5 s6 s7 s8 s9 s10 s11 s12 s13 s14 s15 s16 s17 s18 s19 s20 s21 s22 s23 ah r gt : Int) : (runF Try.prog S32 Zl 4000 3 [.v (.agg [.int .i64 s0, .int .i64 s1, .int .i64 s2, .int .i64 s3, .int .i64 s4, .int .i64 s5, .int .i64 s6, .int .i64 s7, .int .i64 s8, .int .i64 s9, .int .i64 s10, .int .i64 s11, .int .i64 s12, .int .i64 s13, .int .i64 s14, .int .i64 s15, .int .i64 s16, .int .i64 s17, .int .i64 s18, .int .i64 s19, .int .i64 s20, .int .i64 s21, .int .i64 s22, .int .i64 s23]), I ah, I r, I gt] [] 0 [none, none, none, none, none, none, none, none, none, none, none, none, none, none, none, none, none, none, none, none, none, none, some true, none, none, none, none, none, none, none, none, none, none, none, none, some false, some false, some false, some false, some false, some false, none, none, none, none, none, none, none, none, none, none, none, none, none, none, none, some true, some true, some true, some true, some true]).map (fun r => (r.1, r.2.2.2)) = some (LV.v (V1.one (At.bool (divPV (subV (t1V (satV 0) (satV 0) (wr IntKind.i64 (0 - satV 1073741824)) (satV 0)) (mulV (divPV (dotV 30 [t1V (satV 0) (satV 0) (wr IntKind.i64 (0 - satV 1073741824)) (satV 0), s1V 1 (-1) 1 (-1) (satV 1073741824) (satV 0) (satV 0) (satV 0), t1V (satV 0) (satV 0) (satV 1073741824) (satV 0)] [subV ah 0, subV 0 0, subV 0 0]) (dotV 30 [s1V 1 1 (-1) (-1) (satV 1073741824) (satV 0) (satV 0) (satV 0), t1V (satV 0) (satV 0) (satV 1073741824) (satV 0), t1V (satV 0) (satV 0) (wr IntKind.i64 (0 - satV 1073741824)) (satV 0)] [subV ah 0, subV 0 0, subV 0 0]) 30) (s1V 1 1 (-1) (-1) (satV 1073741824) (satV 0) (satV 0) (satV 0)) 30)) (dotV 30 [s1V 1 1 (-1) (-1) (satV 1073741824) (satV 0) (satV 0) (satV 0), t1V (satV 0) (satV 0) (satV 1073741824) (satV 0), t1V (satV 0) (satV 0) (wr IntKind.i64 (0 - satV 1073741824)) (satV 0)] [subV ah 0, subV 0 0, subV 0 0]) 30 == 0))), [(wr IntKind.i64 (0 - divPV (dotV 30 [t1V (satV 0) (satV 0) (wr IntKind.i64 (0 - satV 1073741824)) (satV 0), s1V 1 (-1) 1 (-1) (satV 1073741824) (satV 0) (satV 0) (satV 0), t1V (satV 0) (satV 0) (satV 1073741824) (satV 0)] [subV ah 0, subV 0 0, subV 0 0]) (dotV 30 [s1V 1 1 (-1) (-1) (satV 1073741824) (satV 0) (satV 0) (satV 0), t1V (satV 0) (satV 0) (satV 1073741824) (satV 0), t1V (satV 0) (satV 0) (wr IntKind.i64 (0 - satV 1073741824)) (satV 0)] [subV ah 0, subV 0 0, subV 0 0]) 30) == 0, true), (wr IntKind.i64 (0 - divPV (dotV 30 [t1V (satV 0) (satV 0) (wr IntKind.i64 (0 - satV 1073741824)) (satV 0), s1V 1 (-1) 1 (-1) (satV 1073741824) (satV 0) (satV 0) (satV 0), t1V (satV 0) (satV 0) (satV 1073741824) (satV 0)] [subV ah 0, subV 0 0, subV 0 0]) (dotV 30 [s1V 1 1 (-1) (-1) (satV 1073741824) (satV 0) (satV 0) (satV 0), t1V (satV 0) (satV 0) (satV 1073741824) (satV 0), t1V (satV 0) (satV 0) (wr IntKind.i64 (0 - satV 1073741824)) (satV 0)] [subV ah 0, subV 0 0, subV 0 0]) 30) == 0, true), (wr IntKind.i64 (0 - divPV (dotV 30 [t1V (satV 0) (satV 0) (wr IntKind.i64 (0 - satV 1073741824)) (satV 0), s1V 1 (-1) 1 (-1) (satV 1073741824) (satV 0) (satV 0) (satV 0), t1V (satV 0) (satV 0) (satV 1073741824) (satV 0)] [subV ah 0, subV 0 0, subV 0 0]) (dotV 30 [s1V 1 1 (-1) (-1) (satV 1073741824) (satV 0) (satV 0) (satV 0), t1V (satV 0) (satV 0) (satV 1073741824) (satV 0), t1V (satV 0) (satV 0) (wr IntKind.i64 (0 - satV 1073741824)) (satV 0)] [subV ah 0, subV 0 0, subV 0 0]) 30) == 0, true), (wr IntKind.i64 (0 - divPV (dotV 30 [t1V (satV 0) (satV 0) (wr IntKind.i64 (0 - satV 1073741824)) (satV 0), s1V 1 (-1) 1 (-1) (satV 1073741824) (satV 0) (satV 0) (satV 0), t1V (satV 0) (satV 0) (satV 1073741824) (satV 0)] [subV ah 0, subV 0 0, subV 0 0]) (dotV 30 [s1V 1 1 (-1) (-1) (satV 1073741824) (satV 0) (satV 0) (satV 0), t1V (satV 0) (satV 0) (satV 1073741824) (satV 0), t1V (satV 0) (satV 0) (wr IntKind.i64 (0 - satV 1073741824)) (satV 0)] [subV ah 0, subV 0 0, subV 0 0]) 30) == 0, true), (wr IntKind.i64 (0 - divPV (dotV 30 [t1V (satV 0) (satV 0) (wr IntKind.i64 (0 - satV 1073741824)) (satV 0), s1V 1 (-1) 1 (-1) (satV 1073741824) (satV 0) (satV 0) (satV 0), t1V (satV 0) (satV 0) (satV 1073741824) (satV 0)] [subV ah 0, subV 0 0, subV 0 0]) (dotV 30 [s1V 1 1 (-1) (-1) (satV 1073741824) (satV 0) (satV 0) (satV 0), t1V (satV 0) (satV 0) (satV 1073741824) (satV 0), t1V (satV 0) (satV 0) (wr IntKind.i64 (0 - satV 1073741824)) (satV 0)] [subV ah 0, subV 0 0, subV 0 0]) 30) == 0, true), (decide (dotV 30 [s1V 1 1 (-1) (-1) (satV 1073741824) (satV 0) (satV 0) (satV 0), t1V (satV 0) (satV 0) (satV 1073741824) (satV 0), t1V (satV 0) (satV 0) (wr IntKind.i64 (0 - satV 1073741824)) (satV 0)] [subV ah 0, subV 0 0, subV 0 0] < 5368709120), false), (decide (ah > 214748364800), false), (decide (ah < 6442450944), false), (decide (ah < 6442450944), false), (decide (ah < 6442450944), false), (decide (hypV [subV (s4.tmod 68719476736) (s22.tmod 68719476736), subV (s5.tmod 68719476736) (s23.tmod 68719476736), subV (s6.tmod 68719476736) 0] ≥ 1073741824), false), (decide (hypV [subV (s4.tmod 68719476736) (s22.tmod 68719476736), subV (s5.tmod 68719476736) (s23.tmod 68719476736), subV (s6.tmod 68719476736) 0] < 1073741824), true)]) := by kernel_rfl
theorem aeBL (s0 s1 s2 s3 s4 s5 s6 s7 s8 s9 s10 s11 s12 s13 s14 s15 s16 s17 s18 s19 s20 s21 s22 s23 ah r gt : Int) : (runF Try.prog S32 Zl 4000 3 [.v (.agg [.int .i64 s0, .int .i64 s1, .int .i64 s2, .int .i64 s3, .int .i64 s4, .int .i64 s5, .int .i64 s6, .int .i64 s7, .int .i64 s8, .int .i64 s9, .int .i64 s10, .int .i64 s11, .int .i64 s12, .int .i64 s13, .int .i64 s14, .int .i64 s15, .int .i64 s16, .int .i64 s17, .int .i64 s18, .int .i64 s19, .int .i64 s20, .int .i64 s21, .int .i64 s22, .int .i64 s23]), I ah, I r, I gt] [] 0 [none, none, none, none, none, none, none, none, none, none, none, none, none, none, none, none, none, none, none, none, none, none, some false, none, none, none, none, none, none, none, none, none, none, none, none, none, none, none, some false, some false, some false, none, none, some false, none, some false, none, some true, some true, some true]).map (fun r => (r.1, r.2.2.2)) = some (LV.v (V1.one (At.bool true)), [(decide (ah < 6442450944), true), (decide (ah < 6442450944), true), (decide (ah < 6442450944), true), (subV (hypV [subV (s4.tmod 68719476736) (s22.tmod 68719476736), subV (s5.tmod 68719476736) (s23.tmod 68719476736), subV (s6.tmod 68719476736) 0]) (hypV [subV (s4.tmod 68719476736) (s22.tmod 68719476736), subV (s5.tmod 68719476736) (s23.tmod 68719476736), subV (s6.tmod 68719476736) 0]) != 0, false), (subV (hypV [subV (s4.tmod 68719476736) (s22.tmod 68719476736), subV (s5.tmod 68719476736) (s23.tmod 68719476736), subV (s6.tmod 68719476736) 0]) (hypV [subV (s4.tmod 68719476736) (s22.tmod 68719476736), subV (s5.tmod 68719476736) (s23.tmod 68719476736), subV (s6.tmod 68719476736) 0]) != 0, false), (subV (hypV [subV (s4.tmod 68719476736) (s22.tmod 68719476736), subV (s5.tmod 68719476736) (s23.tmod 68719476736), subV (s6.tmod 68719476736) 0]) (hypV [subV (s4.tmod 68719476736) (s22.tmod 68719476736), subV (s5.tmod 68719476736) (s23.tmod 68719476736), subV (s6.tmod 68719476736) 0]) != 0, false), (subV (hypV [subV (s4.tmod 68719476736) (s22.tmod 68719476736), subV (s5.tmod 68719476736) (s23.tmod 68719476736), subV (s6.tmod 68719476736) 0]) (hypV [subV (s4.tmod 68719476736) (s22.tmod 68719476736), subV (s5.tmod 68719476736) (s23.tmod 68719476736), subV (s6.tmod 68719476736) 0]) != 0, false), (subV (hypV [subV (s4.tmod 68719476736) (s22.tmod 68719476736), subV (s5.tmod 68719476736) (s23.tmod 68719476736), subV (s6.tmod 68719476736) 0]) (hypV [subV (s4.tmod 68719476736) (s22.tmod 68719476736), subV (s5.tmod 68719476736) (s23.tmod 68719476736), subV (s6.tmod 68719476736) 0]) != 0, false), (decide (hypV [subV (s4.tmod 68719476736) (s22.tmod 68719476736), subV (s5.tmod 68719476736) (s23.tmod 68719476736), subV (s6.tmod 68719476736) 0] < 1073741824), false)]) := by kernel_rfl
theorem aeBH (s0 s1 s2 s3 s4 s5 s6 s7 s8 s9 s10 s11 s12 s13 s14 s15 s16 s17 s18 s19 s20 s21 s22 s23 ah r gt : Int) : (runF Try.prog S32 Zl 4000 3 [.v (.agg [.int .i64 s0, .int .i64 s1, .int .i64 s2, .int .i64 s3, .int .i64 s4, .int .i64 s5, .int .i64 s6, .int .i64 s7, .int .i64 s8, .int .i64 s9, .int .i64 s10, .int .i64 s11, .int .i64 s12, .int .i64 s13, .int .i64 s14, .int .i64 s15, .int .i64 s16, .int .i64 s17, .int .i64 s18, .int .i64 s19, .int .i64 s20, .int .i64 s21, .int .i64 s22, .int .i64 s23]), I ah, I r, I gt] [] 0 [none, none, none, none, none, none, none, none, none, none, none, none, none, none, none, none, none, none, none, none, none, none, some false, none, none, none, none, none, none, none, none, none, none, none, none, none, none, none, some false, some false, some false, none, none, some false, none, some false, none, some false, some false, some false, some true]).map (fun r => (r.1, r.2.2.2)) = some (LV.v (V1.one (At.bool true)), [(decide (ah > 214748364800), true), (decide (ah < 6442450944), false), (decide (ah < 6442450944), false), (decide (ah < 6442450944), false), (subV (hypV [subV (s4.tmod 68719476736) (s22.tmod 68719476736), subV (s5.tmod 68719476736) (s23.tmod 68719476736), subV (s6.tmod 68719476736) 0]) (hypV [subV (s4.tmod 68719476736) (s22.tmod 68719476736), subV (s5.tmod 68719476736) (s23.tmod 68719476736), subV (s6.tmod 68719476736) 0]) != 0, false), (subV (hypV [subV (s4.tmod 68719476736) (s22.tmod 68719476736), subV (s5.tmod 68719476736) (s23.tmod 68719476736), subV (s6.tmod 68719476736) 0]) (hypV [subV (s4.tmod 68719476736) (s22.tmod 68719476736), subV (s5.tmod 68719476736) (s23.tmod 68719476736), subV (s6.tmod 68719476736) 0]) != 0, false), (subV (hypV [subV (s4.tmod 68719476736) (s22.tmod 68719476736), subV (s5.tmod 68719476736) (s23.tmod 68719476736), subV (s6.tmod 68719476736) 0]) (hypV [subV (s4.tmod 68719476736) (s22.tmod 68719476736), subV (s5.tmod 68719476736) (s23.tmod 68719476736), subV (s6.tmod 68719476736) 0]) != 0, false), (subV (hypV [subV (s4.tmod 68719476736) (s22.tmod 68719476736), subV (s5.tmod 68719476736) (s23.tmod 68719476736), subV (s6.tmod 68719476736) 0]) (hypV [subV (s4.tmod 68719476736) (s22.tmod 68719476736), subV (s5.tmod 68719476736) (s23.tmod 68719476736), subV (s6.tmod 68719476736) 0]) != 0, false), (subV (hypV [subV (s4.tmod 68719476736) (s22.tmod 68719476736), subV (s5.tmod 68719476736) (s23.tmod 68719476736), subV (s6.tmod 68719476736) 0]) (hypV [subV (s4.tmod 68719476736) (s22.tmod 68719476736), subV (s5.tmod 68719476736) (s23.tmod 68719476736), subV (s6.tmod 68719476736) 0]) != 0, false), (decide (hypV [subV (s4.tmod 68719476736) (s22.tmod 68719476736), subV (s5.tmod 68719476736) (s23.tmod 68719476736), subV (s6.tmod 68719476736) 0] < 1073741824), false)]) := by kernel_rfl
theorem aeBM (s0 s1 s2 s3 s4 s5 s6 s7 s8 s9 s10 s11 s12 s13 s14 s15 s16 s17 s18 s19 s20 s21 s22 s23 ah r gt : Int) : (runF Try.prog S32 Zl 4000 3 [.v (.agg [.int .i64 s0, .int .i64 s1, .int .i64 s2, .int .i64 s3, .int .i64 s4, .int .i64 s5, .int .i64 s6, .int .i64 s7, .int .i64 s8, .int .i64 s9, .int .i64 s10, .int .i64 s11, .int .i64 s12, .int .i64 s13, .int .i64 s14, .int .i64 s15, .int .i64 s16, .int .i64 s17, .int .i64 s18, .int .i64 s19, .int .i64 s20, .int .i64 s21, .int .i64 s22, .int .i64 s23]), I ah, I r, I gt] [] 0 [none, none, none, none, none, none, none, none, none, none, none, none, none, none, none, none, none, none, none, none, none, none, some false, none, none, none, none, none, none, none, none, none, none, none, none, none, none, none, some false, some false, some false, none, none, some false, none, some false, none, some false, some false, some false, some false, some false, none, none, none, none, none, none, none, none, none, none, none, none, none, none, none, some true, some true, some true, some true, some true]).map (fun r => (r.1, r.2.2.2)) = some (LV.v (V1.one (At.bool (divPV (subV (t1V (satV 0) (satV 0) (wr IntKind.i64 (0 - satV 1073741824)) (satV 0)) (mulV (divPV (dotV 30 [t1V (satV 0) (satV 0) (wr IntKind.i64 (0 - satV 1073741824)) (satV 0), s1V 1 (-1) 1 (-1) (satV 1073741824) (satV 0) (satV 0) (satV 0), t1V (satV 0) (satV 0) (satV 1073741824) (satV 0)] [subV ah 0, subV 0 0, subV 0 0]) (dotV 30 [s1V 1 1 (-1) (-1) (satV 1073741824) (satV 0) (satV 0) (satV 0), t1V (satV 0) (satV 0) (satV 1073741824) (satV 0), t1V (satV 0) (satV 0) (wr IntKind.i64 (0 - satV 1073741824)) (satV 0)] [subV ah 0, subV 0 0, subV 0 0]) 30) (s1V 1 1 (-1) (-1) (satV 1073741824) (satV 0) (satV 0) (satV 0)) 30)) (dotV 30 [s1V 1 1 (-1) (-1) (satV 1073741824) (satV 0) (satV 0) (satV 0), t1V (satV 0) (satV 0) (satV 1073741824) (satV 0), t1V (satV 0) (satV 0) (wr IntKind.i64 (0 - satV 1073741824)) (satV 0)] [subV ah 0, subV 0 0, subV 0 0]) 30 == 0))), [(wr IntKind.i64 (0 - divPV (dotV 30 [t1V (satV 0) (satV 0) (wr IntKind.i64 (0 - satV 1073741824)) (satV 0), s1V 1 (-1) 1 (-1) (satV 1073741824) (satV 0) (satV 0) (satV 0), t1V (satV 0) (satV 0) (satV 1073741824) (satV 0)] [subV ah 0, subV 0 0, subV 0 0]) (dotV 30 [s1V 1 1 (-1) (-1) (satV 1073741824) (satV 0) (satV 0) (satV 0), t1V (satV 0) (satV 0) (satV 1073741824) (satV 0), t1V (satV 0) (satV 0) (wr IntKind.i64 (0 - satV 1073741824)) (satV 0)] [subV ah 0, subV 0 0, subV 0 0]) 30) == 0, true), (wr IntKind.i64 (0 - divPV (dotV 30 [t1V (satV 0) (satV 0) (wr IntKind.i64 (0 - satV 1073741824)) (satV 0), s1V 1 (-1) 1 (-1) (satV 1073741824) (satV 0) (satV 0) (satV 0), t1V (satV 0) (satV 0) (satV 1073741824) (satV 0)] [subV ah 0, subV 0 0, subV 0 0]) (dotV 30 [s1V 1 1 (-1) (-1) (satV 1073741824) (satV 0) (satV 0) (satV 0), t1V (satV 0) (satV 0) (satV 1073741824) (satV 0), t1V (satV 0) (satV 0) (wr IntKind.i64 (0 - satV 1073741824)) (satV 0)] [subV ah 0, subV 0 0, subV 0 0]) 30) == 0, true), (wr IntKind.i64 (0 - divPV (dotV 30 [t1V (satV 0) (satV 0) (wr IntKind.i64 (0 - satV 1073741824)) (satV 0), s1V 1 (-1) 1 (-1) (satV 1073741824) (satV 0) (satV 0) (satV 0), t1V (satV 0) (satV 0) (satV 1073741824) (satV 0)] [subV ah 0, subV 0 0, subV 0 0]) (dotV 30 [s1V 1 1 (-1) (-1) (satV 1073741824) (satV 0) (satV 0) (satV 0), t1V (satV 0) (satV 0) (satV 1073741824) (satV 0), t1V (satV 0) (satV 0) (wr IntKind.i64 (0 - satV 1073741824)) (satV 0)] [subV ah 0, subV 0 0, subV 0 0]) 30) == 0, true), (wr IntKind.i64 (0 - divPV (dotV 30 [t1V (satV 0) (satV 0) (wr IntKind.i64 (0 - satV 1073741824)) (satV 0), s1V 1 (-1) 1 (-1) (satV 1073741824) (satV 0) (satV 0) (satV 0), t1V (satV 0) (satV 0) (satV 1073741824) (satV 0)] [subV ah 0, subV 0 0, subV 0 0]) (dotV 30 [s1V 1 1 (-1) (-1) (satV 1073741824) (satV 0) (satV 0) (satV 0), t1V (satV 0) (satV 0) (satV 1073741824) (satV 0), t1V (satV 0) (satV 0) (wr IntKind.i64 (0 - satV 1073741824)) (satV 0)] [subV ah 0, subV 0 0, subV 0 0]) 30) == 0, true), (wr IntKind.i64 (0 - divPV (dotV 30 [t1V (satV 0) (satV 0) (wr IntKind.i64 (0 - satV 1073741824)) (satV 0), s1V 1 (-1) 1 (-1) (satV 1073741824) (satV 0) (satV 0) (satV 0), t1V (satV 0) (satV 0) (satV 1073741824) (satV 0)] [subV ah 0, subV 0 0, subV 0 0]) (dotV 30 [s1V 1 1 (-1) (-1) (satV 1073741824) (satV 0) (satV 0) (satV 0), t1V (satV 0) (satV 0) (satV 1073741824) (satV 0), t1V (satV 0) (satV 0) (wr IntKind.i64 (0 - satV 1073741824)) (satV 0)] [subV ah 0, subV 0 0, subV 0 0]) 30) == 0, true), (decide (dotV 30 [s1V 1 1 (-1) (-1) (satV 1073741824) (satV 0) (satV 0) (satV 0), t1V (satV 0) (satV 0) (satV 1073741824) (satV 0), t1V (satV 0) (satV 0) (wr IntKind.i64 (0 - satV 1073741824)) (satV 0)] [subV ah 0, subV 0 0, subV 0 0] < 5368709120), false), (decide (ah > 214748364800), false), (decide (ah < 6442450944), false), (decide (ah < 6442450944), false), (decide (ah < 6442450944), false), (subV (hypV [subV (s4.tmod 68719476736) (s22.tmod 68719476736), subV (s5.tmod 68719476736) (s23.tmod 68719476736), subV (s6.tmod 68719476736) 0]) (hypV [subV (s4.tmod 68719476736) (s22.tmod 68719476736), subV (s5.tmod 68719476736) (s23.tmod 68719476736), subV (s6.tmod 68719476736) 0]) != 0, false), (subV (hypV [subV (s4.tmod 68719476736) (s22.tmod 68719476736), subV (s5.tmod 68719476736) (s23.tmod 68719476736), subV (s6.tmod 68719476736) 0]) (hypV [subV (s4.tmod 68719476736) (s22.tmod 68719476736), subV (s5.tmod 68719476736) (s23.tmod 68719476736), subV (s6.tmod 68719476736) 0]) != 0, false), (subV (hypV [subV (s4.tmod 68719476736) (s22.tmod 68719476736), subV (s5.tmod 68719476736) (s23.tmod 68719476736), subV (s6.tmod 68719476736) 0]) (hypV [subV (s4.tmod 68719476736) (s22.tmod 68719476736), subV (s5.tmod 68719476736) (s23.tmod 68719476736), subV (s6.tmod 68719476736) 0]) != 0, false), (subV (hypV [subV (s4.tmod 68719476736) (s22.tmod 68719476736), subV (s5.tmod 68719476736) (s23.tmod 68719476736), subV (s6.tmod 68719476736) 0]) (hypV [subV (s4.tmod 68719476736) (s22.tmod 68719476736), subV (s5.tmod 68719476736) (s23.tmod 68719476736), subV (s6.tmod 68719476736) 0]) != 0, false), (subV (hypV [subV (s4.tmod 68719476736) (s22.tmod 68719476736), subV (s5.tmod 68719476736) (s23.tmod 68719476736), subV (s6.tmod 68719476736) 0]) (hypV [subV (s4.tmod 68719476736) (s22.tmod 68719476736), subV (s5.tmod 68719476736) (s23.tmod 68719476736), subV (s6.tmod 68719476736) 0]) != 0, false), (decide (hypV [subV (s4.tmod 68719476736) (s22.tmod 68719476736), subV (s5.tmod 68719476736) (s23.tmod 68719476736), subV (s6.tmod 68719476736) 0] < 1073741824), false)]) := by kernel_rfl

theorem aeDiv {d : Int} (h0 : 0 < d) (h1 : d ≤ 1152921504606846976) : divPV 0 d 30 = 0 := by
  have e0 : satV 0 = 0 := by decide
  have hq : quoR 0 (absV d) = 0 := by
    unfold quoR
    rw [Int.zero_emod, Int.zero_ediv, absV_pos (by omega), if_neg (by omega)]
  have a0 : absV 0 = 0 := by decide
  have hs : ∀ b : Bool, sgn b 0 = 0 := fun b => by cases b <;> rfl
  unfold divPV byV
  rw [if_neg (by decide), if_neg (by decide), e0, sat_in (a := d) (by omega) h1, Int.zero_mul, if_neg (by omega)]
  unfold divV
  rw [a0, hq, hs]
  decide
theorem aeRnd {x : Int} (h0 : 0 ≤ x) (h1 : x ≤ 1152921504606846976) : rndS (1073741824 * x) 30 = x := by
  have e : rndV (1073741824 * x) 30 = x := by
    rw [rnd_pos (by omega), show halfP 30 = 536870912 from rfl, show pow2 30 = 1073741824 from rfl]; omega
  unfold rndS
  rw [if_neg (by decide), if_neg (by decide), show Int.toNat 30 = 30 from rfl, e, sat_in (by omega) h1]
theorem aeOne {x : Int} (h0 : 0 ≤ x) (h1 : x ≤ 1152921504606846976) : dotV 30 [1073741824, 0, 0] [x, 0, 0] = x := by
  show rndS (satV 1073741824 * satV x + (satV 0 * satV 0 + (satV 0 * satV 0 + 0))) 30 = x
  have e0 : satV 0 = 0 := by decide
  have e1 : satV 1073741824 = 1073741824 := by decide
  rw [e0, e1, sat_in (a := x) (by omega) h1]
  have e : (1073741824 * x + (0 * 0 + (0 * 0 + 0)) : Int) = 1073741824 * x := by omega
  rw [e]
  exact aeRnd (by omega) h1
theorem aeNone (x : Int) : dotV 30 [0, 1073741824, 0] [x, 0, 0] = 0 := by
  show rndS (satV 0 * satV x + (satV 1073741824 * satV 0 + (satV 0 * satV 0 + 0))) 30 = 0
  have e0 : satV 0 = 0 := by decide
  rw [e0, Int.zero_mul, Int.mul_zero]
  decide
theorem aeSub {x : Int} (h0 : 0 ≤ x) (h1 : x ≤ 1152921504606846976) : subV x 0 = x := by
  unfold subV
  have e0 : satV 0 = 0 := by decide
  rw [e0, Int.sub_zero, sat_sat, sat_in (by omega) h1]
theorem aeSelf (x : Int) : subV x x = 0 := by
  unfold subV
  rw [Int.sub_self]; decide

theorem lawAirExpected (s0 s1 s2 s3 s4 s5 s6 s7 s8 s9 s10 s11 s12 s13 s14 s15 s16 s17 s18 s19 s20 s21 s22 s23 ah r gt : Int) (w : World) :
    Calls Try.prog 3 ([.v (.agg [.int .i64 s0, .int .i64 s1, .int .i64 s2, .int .i64 s3, .int .i64 s4, .int .i64 s5, .int .i64 s6, .int .i64 s7, .int .i64 s8, .int .i64 s9, .int .i64 s10, .int .i64 s11, .int .i64 s12, .int .i64 s13, .int .i64 s14, .int .i64 s15, .int .i64 s16, .int .i64 s17, .int .i64 s18, .int .i64 s19, .int .i64 s20, .int .i64 s21, .int .i64 s22, .int .i64 s23]), I ah, I r, I gt].map (LV.den E0)).toArray w fun e w' => e = .returned (.bool true) ∧ Below w.heap.size w w' := by
  have k1 : t1V (satV 0) (satV 0) (wr IntKind.i64 (0 - satV 1073741824)) (satV 0) = 0 := by kernel_rfl
  have k2 : s1V 1 (-1) 1 (-1) (satV 1073741824) (satV 0) (satV 0) (satV 0) = 1073741824 := by kernel_rfl
  have k3 : t1V (satV 0) (satV 0) (satV 1073741824) (satV 0) = 0 := by kernel_rfl
  have k4 : s1V 1 1 (-1) (-1) (satV 1073741824) (satV 0) (satV 0) (satV 0) = 1073741824 := by kernel_rfl
  have k5 : subV 0 0 = 0 := by decide
  have k6 : mulV 0 1073741824 30 = 0 := by kernel_rfl
  have k7 : wr IntKind.i64 (0 - 0) = 0 := by decide
  rcases bool_cases (decide (hypV [subV (s4.tmod 68719476736) (s22.tmod 68719476736), subV (s5.tmod 68719476736) (s23.tmod 68719476736), subV (s6.tmod 68719476736) 0] < 1073741824)) with hn | hn
  · have hn2 : decide (hypV [subV (s4.tmod 68719476736) (s22.tmod 68719476736), subV (s5.tmod 68719476736) (s23.tmod 68719476736), subV (s6.tmod 68719476736) 0] ≥ 1073741824) = false := by
      rw [decide_eq_true_eq] at hn
      exact decide_eq_false (Int.not_le.2 hn)
    rcases bool_cases (decide (ah < 6442450944)) with h1 | h1
    · exact law_true sound32 (aeAL s0 s1 s2 s3 s4 s5 s6 s7 s8 s9 s10 s11 s12 s13 s14 s15 s16 s17 s18 s19 s20 s21 s22 s23 ah r gt) rfl (by rw [hn, hn2, h1]; simp) rfl w
    · rcases bool_cases (decide (ah > 214748364800)) with h2 | h2
      · exact law_true sound32 (aeAH s0 s1 s2 s3 s4 s5 s6 s7 s8 s9 s10 s11 s12 s13 s14 s15 s16 s17 s18 s19 s20 s21 s22 s23 ah r gt) rfl (by rw [hn, hn2, h1, h2]; simp) rfl w
      · have a0 : 6442450944 ≤ ah := by simp only [decide_eq_false_iff_not] at h1; omega
        have a1 : ah ≤ 214748364800 := by simp only [decide_eq_false_iff_not] at h2; omega
        have d0 := aeDiv (d := ah) (by omega) (by omega)
        have d1 := aeOne (x := ah) (by omega) (by omega)
        have d2 := aeNone ah
        have d3 := aeSub (x := ah) (by omega) (by omega)
        have d4 : decide (ah < 5368709120) = false := decide_eq_false (by omega)
        refine law_true sound32 (aeAM s0 s1 s2 s3 s4 s5 s6 s7 s8 s9 s10 s11 s12 s13 s14 s15 s16 s17 s18 s19 s20 s21 s22 s23 ah r gt) ?_ ?_ rfl w
        · rw [k1, k2, k3, k4, k5, d3, d1, d2, d0, k6, k5, d0]; rfl
        · rw [hn, hn2, h1, h2, k1, k2, k3, k4, k5, d3, d1, d2, d0, k7, d4]; simp
  · have hs := aeSelf (hypV [subV (s4.tmod 68719476736) (s22.tmod 68719476736), subV (s5.tmod 68719476736) (s23.tmod 68719476736), subV (s6.tmod 68719476736) 0])
    rcases bool_cases (decide (ah < 6442450944)) with h1 | h1
    · exact law_true sound32 (aeBL s0 s1 s2 s3 s4 s5 s6 s7 s8 s9 s10 s11 s12 s13 s14 s15 s16 s17 s18 s19 s20 s21 s22 s23 ah r gt) rfl (by rw [hn, hs, h1]; simp) rfl w
    · rcases bool_cases (decide (ah > 214748364800)) with h2 | h2
      · exact law_true sound32 (aeBH s0 s1 s2 s3 s4 s5 s6 s7 s8 s9 s10 s11 s12 s13 s14 s15 s16 s17 s18 s19 s20 s21 s22 s23 ah r gt) rfl (by rw [hn, hs, h1, h2]; simp) rfl w
      · have a0 : 6442450944 ≤ ah := by simp only [decide_eq_false_iff_not] at h1; omega
        have a1 : ah ≤ 214748364800 := by simp only [decide_eq_false_iff_not] at h2; omega
        have d0 := aeDiv (d := ah) (by omega) (by omega)
        have d1 := aeOne (x := ah) (by omega) (by omega)
        have d2 := aeNone ah
        have d3 := aeSub (x := ah) (by omega) (by omega)
        have d4 : decide (ah < 5368709120) = false := decide_eq_false (by omega)
        refine law_true sound32 (aeBM s0 s1 s2 s3 s4 s5 s6 s7 s8 s9 s10 s11 s12 s13 s14 s15 s16 s17 s18 s19 s20 s21 s22 s23 ah r gt) ?_ ?_ rfl w
        · rw [k1, k2, k3, k4, k5, d3, d1, d2, d0, k6, k5, d0]; rfl
        · rw [hn, hs, h1, h2, k1, k2, k3, k4, k5, d3, d1, d2, d0, k7, d4]; simp
end Go.Proofs.Ythfanchjkkeejaa

/- Opening an array of numbers that a law is handed (the seventh form's data). -/
namespace Go.Lr
open Go.ChangeShapes Go.WideShapes Go.ChangeAt Go.RowKit

section
variable {H : Type} {enc : TypeId × Value → H} {P : Program} {k e : TypeId} {W : World} {base : Nat} {sp : Nat → Bool} {held : Bool}

theorem mapM_ints (he : P.underlying e = some (.int .i64)) {m : Nat} {cs : List Value} : ∀ (L : List Nat) (xs : List (DataW H × List MemPlace)),
    L.mapM (fun i => DataW.trod enc P W base sp held m e ((cs.drop (i * 1)).take 1)) = some xs →
    ∃ zs : List Int, zs.length = L.length ∧ xs = zs.map (fun z => (.lit (.int .i64 z), [])) ∧ (∀ z ∈ zs, (Lit.int .i64 z).wf = true) ∧
      (∀ (j : Nat) (h : j < L.length) (h' : j < zs.length), (cs.drop (L[j] * 1)).take 1 = [.int .i64 zs[j]]) ∧
      ∀ (W' : World) (base' : Nat) (sp' : Nat → Bool), L.mapM (fun i => DataW.trod enc P W' base' sp' held m e ((cs.drop (i * 1)).take 1)) = some xs
  | [], xs, h => by
    simp at h
    subst h
    exact ⟨[], rfl, rfl, by simp, by simp, fun _ _ _ => rfl⟩
  | i :: L, xs, h => by
    rw [List.mapM_cons] at h
    simp only [bind, Option.bind_eq_some_iff, pure, Option.some.injEq] at h
    obtain ⟨y, hy, ys, hys, rfl⟩ := h
    obtain ⟨zs, h1, rfl, h2, h3, h4⟩ := mapM_ints he L ys hys
    obtain ⟨a, ea, rfl, wa⟩ := DataW.trod_int he hy
    refine ⟨a :: zs, by simp [h1], rfl, ?_, ?_, fun W' base' sp' => ?_⟩
    · intro z hz
      rcases List.mem_cons.1 hz with rfl | hz
      · exact wa
      · exact h2 z hz
    · intro j hj hj'
      cases j with
      | zero => exact ea
      | succ j => exact h3 j (by simpa using hj) (by simpa using hj')
    · rw [List.mapM_cons, h4 W' base' sp']
      have hw : DataW.trod enc P W' base' sp' held m e ((cs.drop (i * 1)).take 1) = some (.lit (.int .i64 a), []) := by
        rw [ea] at hy ⊢
        cases m with
        | zero => simp [DataW.trod] at hy
        | succ m => simp [DataW.trod, he, wa]
      rw [hw]
      rfl

theorem open_arr {n : Nat} (hk : P.underlying k = some (.array n e)) (he : P.underlying e = some (.int .i64)) (hc : P.cellsOf k = n) (hce : P.cellsOf e = 1) {r : Reach} {b0 : Nat} {v : Value} {d : DataW H} {ps : List MemPlace}
    (hval : Value.okWide P W r b0 k v) (hd : DataW.Trod enc P W base sp held k v d ps) :
    ∃ zs : List Int, zs.length = n ∧ v = .agg (zs.map (Value.int .i64)).toArray ∧ ps = [] ∧ (∀ z ∈ zs, (Lit.int .i64 z).wf = true) ∧ ∀ (W' : World) (base' : Nat) (sp' : Nat → Bool), DataW.Trod enc P W' base' sp' held k v d [] := by
  simp only [Value.okWide, hk] at hval
  obtain ⟨cs, rfl, hs, -⟩ := hval
  rw [hc] at hs
  obtain ⟨fuel, hf⟩ := hd
  cases fuel with
  | zero => simp [DataW.trod] at hf
  | succ m =>
    rw [DataW.trod_step] at hf
    unfold DataW.trodStep at hf
    simp only [hk, Value.cells, hc, hce] at hf
    have hl : cs.toList.length = n := by simpa using hs
    rw [if_pos hl] at hf
    simp only [Option.map_eq_some_iff] at hf
    obtain ⟨ys, hy, e1⟩ := hf
    obtain ⟨zs, h1, rfl, h2, h3, h4⟩ := mapM_ints he _ ys hy
    rw [List.length_range] at h1
    simp only [Prod.mk.injEq] at e1
    have hcs : cs.toList = zs.map (Value.int .i64) := by
      refine List.ext_getElem (by simp [hl, h1]) fun j hj hj' => ?_
      have h := h3 j (by simpa using (show j < n by omega)) (by omega)
      rw [List.getElem_range, Nat.mul_one] at h
      have h5 : ((cs.toList.drop j).take 1)[0]? = some (Value.int .i64 zs[j]) := by rw [h]; rfl
      rw [List.getElem?_take, if_pos (by decide), List.getElem?_drop, Nat.add_zero, List.getElem?_eq_getElem hj] at h5
      simpa using h5
    refine ⟨zs, h1, by rw [← hcs], by rw [← e1.2]; simp [List.flatMap_eq_nil_iff], h2, fun W' base' sp' => ⟨m + 1, ?_⟩⟩
    rw [DataW.trod_step]
    unfold DataW.trodStep
    simp only [hk, Value.cells, hc, hce]
    rw [if_pos hl, h4 W' base' sp']
    simp only [Option.map_some, Option.some.injEq, Prod.mk.injEq]
    exact ⟨e1.1, by simp [List.flatMap_eq_nil_iff]⟩
end
end Go.Lr

/- Opening a struct of numbers that a law is handed. -/
namespace Go.Lr
open Go.ChangeShapes Go.WideShapes Go.ChangeAt Go.RowKit

section
variable {H : Type} {enc : TypeId × Value → H} {P : Program} {held : Bool}

/-- A type of so many whole numbers of 64 bits, one after the other. -/
def PlainT (enc : TypeId × Value → H) (P : Program) (held : Bool) (t : TypeId) (n : Nat) : Prop :=
  P.cellsOf t = n ∧ ∀ (W : World) (base : Nat) (sp : Nat → Bool) (m : Nat) (cs : List Value) (x : DataW H × List MemPlace), DataW.trod enc P W base sp held m t cs = some x →
    ∃ zs : List Int, zs.length = n ∧ cs = zs.map (Value.int .i64) ∧ x.2 = [] ∧ (∀ z ∈ zs, (Lit.int .i64 z).wf = true) ∧ ∀ (W' : World) (base' : Nat) (sp' : Nat → Bool), DataW.trod enc P W' base' sp' held m t cs = some x

theorem plain_int {t : TypeId} (ht : P.underlying t = some (.int .i64)) (hc : P.cellsOf t = 1) : PlainT enc P held t 1 := by
  refine ⟨hc, fun W base sp m cs x h => ?_⟩
  obtain ⟨a, rfl, rfl, wa⟩ := DataW.trod_int ht h
  refine ⟨[a], rfl, rfl, rfl, by simpa using wa, fun W' base' sp' => ?_⟩
  cases m with
  | zero => simp [DataW.trod] at h
  | succ m => simp [DataW.trod, ht, wa]

theorem plain_struct2 {t : TypeId} {fs : Array Field} {f0 f1 : Field} {n0 n1 : Nat} (ht : P.underlying t = some (.struct fs)) (hfs : fs.toList = [f0, f1]) (h0 : f0.offset = 0) (h1 : f1.offset = n0)
    (p0 : PlainT enc P held f0.type n0) (p1 : PlainT enc P held f1.type n1) (hc : P.cellsOf t = n0 + n1) : PlainT enc P held t (n0 + n1) := by
  refine ⟨hc, fun W base sp m cs x h => ?_⟩
  obtain ⟨c0, q0⟩ := p0
  obtain ⟨c1, q1⟩ := p1
  cases m with
  | zero => simp [DataW.trod] at h
  | succ m =>
    rw [DataW.trod_step] at h
    unfold DataW.trodStep at h
    simp only [ht] at h
    split at h
    · rename_i hl
      rw [hc] at hl
      simp only [hfs, List.mapM_cons, List.mapM_nil, bind, pure, h0, h1, c0, c1, List.drop_zero, Option.map_eq_some_iff, Option.bind_eq_some_iff, Option.some.injEq] at h
      obtain ⟨xs, ⟨y0, g0, ys, ⟨y1, g1, r, rfl, rfl⟩, rfl⟩, rfl⟩ := h
      obtain ⟨z0, a1, a2, a3, a4, a5⟩ := q0 _ _ _ _ _ _ g0
      obtain ⟨z1, b1, b2, b3, b4, b5⟩ := q1 _ _ _ _ _ _ g1
      have hcs : cs = (z0 ++ z1).map (Value.int .i64) := by
        rw [List.map_append, ← a2, ← b2, List.take_of_length_le (l := cs.drop n0) (by rw [List.length_drop]; omega), List.take_append_drop]
      refine ⟨z0 ++ z1, by simp [a1, b1], hcs, by simp [a3, b3], ?_, fun W' base' sp' => ?_⟩
      · intro z hz
        rcases List.mem_append.1 hz with hz | hz
        · exact a4 z hz
        · exact b4 z hz
      · rw [DataW.trod_step]
        unfold DataW.trodStep
        simp only [ht]
        rw [if_pos (by rw [hc]; exact hl)]
        simp only [hfs, List.mapM_cons, List.mapM_nil, bind, pure, h0, h1, c0, c1, List.drop_zero, a5 W' base' sp', b5 W' base' sp', Option.bind_some, Option.map_some]
    · cases h

/-- The two fields of a struct: their types, their places. -/
def twoF (P : Program) (t : TypeId) : Option (TypeId × Nat × TypeId × Nat) :=
  match P.underlying t with
  | some (.struct fs) => match fs.toList with
    | [f0, f1] => some (f0.type, f0.offset, f1.type, f1.offset)
    | _ => none
  | _ => none
theorem plain_two {t t0 t1 : TypeId} {n0 n1 : Nat} (h : twoF P t = some (t0, 0, t1, n0)) (p0 : PlainT enc P held t0 n0) (p1 : PlainT enc P held t1 n1) (hc : P.cellsOf t = n0 + n1) : PlainT enc P held t (n0 + n1) := by
  unfold twoF at h
  split at h
  · rename_i fs hu
    split at h
    · rename_i f0 f1 hl
      simp only [Option.some.injEq, Prod.mk.injEq] at h
      obtain ⟨rfl, h0, rfl, h1⟩ := h
      exact plain_struct2 hu hl h0 h1 p0 p1 hc
    · cases h
  · cases h
def isStruct (P : Program) (t : TypeId) : Bool :=
  match P.underlying t with
  | some (.struct _) => true
  | _ => false
theorem isStruct_spec {t : TypeId} (h : isStruct P t = true) : ∃ fs, P.underlying t = some (.struct fs) := by
  unfold isStruct at h
  split at h
  · rename_i fs hu; exact ⟨fs, hu⟩
  · cases h

theorem open_plain {t : TypeId} {n : Nat} (hs : isStruct P t = true) (hp : PlainT enc P held t n) {W : World} {base : Nat} {sp : Nat → Bool} {r : Reach} {b0 : Nat} {v : Value} {d : DataW H} {ps : List MemPlace}
    (hval : Value.okWide P W r b0 t v) (hd : DataW.Trod enc P W base sp held t v d ps) :
    ∃ zs : List Int, zs.length = n ∧ v = .agg (zs.map (Value.int .i64)).toArray ∧ ps = [] ∧ (∀ z ∈ zs, (Lit.int .i64 z).wf = true) ∧ ∀ (W' : World) (base' : Nat) (sp' : Nat → Bool), DataW.Trod enc P W' base' sp' held t v d [] := by
  obtain ⟨fs, ht⟩ := isStruct_spec hs
  simp only [Value.okWide, ht] at hval
  obtain ⟨cs, rfl, hsz, -⟩ := hval
  obtain ⟨fuel, hf⟩ := hd
  obtain ⟨zs, h1, h2, h3, h4, h5⟩ := hp.2 _ _ _ _ _ _ hf
  simp only [Value.cells] at h2 h5
  simp only at h3
  subst h3
  exact ⟨zs, h1, by rw [← h2], rfl, h4, fun W' base' sp' => ⟨fuel, h5 W' base' sp'⟩⟩
end
end Go.Lr
