/- Joined texts. What each part proves stands ahead of it; no condition. -/
import Derived.Test.YthfanchjkkeejaaLrM4
import Derived.Test.YthfanchjkkeejaaLrM5
import Derived.Test.YthfanchjkkeejaaLrM6

/- The local evaluator: summaries of functions that hand out a new slice, made by running them. -/
namespace Go.Lr
open Go.RowKit

/-- References to the one block j, told by another number. -/
def renA (j nb : Nat) : At → Option At
  | .sl b o n c => match Nat.beq b j with
    | true => some (.sl nb o n c)
    | false => none
  | .slu b n => match Nat.beq b j with
    | true => some (.slu nb n)
    | false => none
  | a => match a.ok noP with
    | true => some a
    | false => none
def renV1 (j nb : Nat) : V1 → Option V1
  | .one a => match renA j nb a with
    | some b => some (.one b)
    | none => none
  | .agg l => match okL noP l with
    | true => some (.agg l)
    | false => none
def renVs (j nb : Nat) : List V1 → Option (List V1)
  | [] => some []
  | a :: l => match renV1 j nb a, renVs j nb l with
    | some b, some r => some (b :: r)
    | _, _ => none
def renLV (j nb : Nat) : LV → Option LV
  | .v x => match renV1 j nb x with
    | some y => some (.v y)
    | none => none
  | .tup l => match renVs j nb l with
    | some r => some (.tup r)
    | none => none
/-- The first slice's block. -/
def slOf : List V1 → Option Nat
  | [] => none
  | .one (.sl b _ _ _) :: _ => some b
  | .one (.slu b _) :: _ => some b
  | _ :: l => slOf l
def slOfLV : LV → Option Nat
  | .v x => slOf [x]
  | .tup l => slOf l

section
variable {E E' : Env} {j nb : Nat}
theorem renA_den {a b : At} (h : renA j nb a = some b) (he : E' nb = E j) : a.den E = b.den E' := by
  unfold renA at h
  split at h
  · rename_i b' o n c
    split at h
    · rename_i hb
      rw [nbeq] at hb
      have hb' : b' = j := by simpa using hb
      cases h
      subst hb'
      simp only [At.den, he]
    · cases h
  · rename_i b' n
    split at h
    · rename_i hb
      rw [nbeq] at hb
      have hb' : b' = j := by simpa using hb
      cases h
      subst hb'
      simp only [At.den, he]
    · cases h
  · split at h
    · rename_i hok
      cases h
      have h1 := denA_noP (E := E) (l := [a]) (by simp [okL, hok])
      have h2 := denA_noP (E := E') (l := [a]) (by simp [okL, hok])
      simp only [List.map_cons, List.map_nil, List.cons.injEq, and_true] at h1 h2
      rw [h1, h2]
    · cases h
theorem renV1_den {a b : V1} (h : renV1 j nb a = some b) (he : E' nb = E j) : a.den E = b.den E' := by
  unfold renV1 at h
  split at h
  · split at h
    · rename_i hb
      cases h
      exact renA_den hb he
    · cases h
  · split at h
    · rename_i hok
      cases h
      simp only [V1.den, denA_noP (E := E) hok, denA_noP (E := E') hok]
    · cases h
theorem renVs_den : ∀ {l r : List V1}, renVs j nb l = some r → E' nb = E j → l.map (V1.den E) = r.map (V1.den E')
  | [], r, h, he => by simp only [renVs] at h; cases h; rfl
  | a :: l, r, h, he => by
    simp only [renVs] at h
    split at h
    · rename_i b r' hb hr
      cases h
      simp only [List.map_cons, renV1_den hb he, renVs_den hr he]
    · cases h
theorem renLV_den {v v' : LV} (h : renLV j nb v = some v') (he : E' nb = E j) : v.den E = v'.den E' := by
  unfold renLV at h
  split at h
  · split at h
    · rename_i hb
      cases h
      exact renV1_den hb he
    · cases h
  · split at h
    · rename_i hb
      cases h
      simp only [LV.den, renVs_den hb he]
    · cases h
end

section
variable {P : Program} {S : FuncId → Option SumK} {z : Md}

def autoN (P : Program) (S : FuncId → Option SumK) (z : Md) (n : Nat) (f : FuncId) : Sum := fun args =>
  match args with
  | x :: rest => match refTo x, plainVs rest with
    | some (b, y), true => some ⟨[], [b], fun _ wB nb => match wB with
      | [k] => match okL noP k.cells with
        | true => match runF P S z n f (y :: rest) [(0, k)] 1 [] with
          | some (v, m', _, cs) => match getM m' 0, slOfLV v with
            | some k', some j => match getM m' j, renLV j nb v with
              | some kj, some v' => match Nat.beq k'.es k.es, okL noP k'.cells, okL noP kj.cells, Nat.ble 1 j with
                | true, true, true, true => some ⟨v', [k'], [kj], cs⟩
                | _, _, _, _ => none
              | _, _ => none
            | _, _ => none
          | none => none
        | false => none
      | _ => none⟩
    | _, _ => none
  | [] => none

theorem autoN_ok (hs : Sound P S) {n : Nat} {f : FuncId} (ho : Own P f) : SumOK P f (autoN P S z n f) := by
  intro args t g nb p rdB wrB ans ws E w hs' hr hw _ hgo hz hc hrel hg hargs hn
  unfold autoN at hs'
  split at hs'
  · rename_i x rest
    split at hs'
    · rename_i b y href hp
      cases hs'
      simp only at hgo hw
      split at hgo
      · rename_i k
        split at hgo
        · rename_i hk
          split at hgo
          · rename_i v m' nb' cs hrun
            split at hgo
            · rename_i k' j hk' hj
              split at hgo
              · rename_i kj v' hkj hren
                split at hgo
                · rename_i hes hok' hokj hj1
                  cases hgo
                  obtain ⟨q, r', hq, hr', hrr⟩ := liveAll_cons hw
                  cases liveAll_nil hr'
                  cases hrr
                  simp only [zipW] at hz
                  cases hz
                  rw [nbeq] at hes
                  have hes' : k'.es = k.es := by simpa using hes
                  have hj1' : 1 ≤ j := Nat.le_of_ble_eq_true hj1
                  obtain ⟨r1, r2, r3⟩ := refTo_spec href E
                  have hp' := plainVs_iff.1 hp
                  obtain ⟨s', h1, h2, h3, h4⟩ := runF_body hrun
                  have hget : ∀ i c, getM [(0, k)] i = some c → i = 0 ∧ c = k := by
                    intro i c hc
                    rw [getM_cons] at hc
                    by_cases hi : i = 0
                    · rw [if_pos hi] at hc; cases hc; exact ⟨hi, rfl⟩
                    · rw [if_neg hi] at hc; simp [getM] at hc
                  obtain ⟨v0, b1, b2, b3, b4, b5, b6, b7, b8⟩ := (exec_sound (binOK P) hs.sums hs.mix hs.ng n).2.2.2 f (y :: rest) _ _ s' h1 (fun i c hc => by
                    obtain ⟨rfl, rfl⟩ := hget i c hc
                    exact ⟨Nat.zero_lt_one, okL_mono noP_below hk⟩) ⟨rfl, trivial⟩ (fun u hu => by
                    rcases List.mem_cons.1 hu with rfl | hu
                    · exact r2
                    · exact LV.ok_mono noP_below (hp' u hu))
                  cases b1
                  obtain ⟨r0, g1, g2, g3⟩ := hrel.blk b k hq
                  have hmr : MRel (fun _ => E b) ⟨.nil, 0, [(0, k)], 1, [], []⟩ w := by
                    refine ⟨⟨fun i c hc => ?_, fun i j hi hj _ => ?_⟩, fun i c hc => ?_, ⟨rfl, trivial⟩⟩
                    · obtain ⟨rfl, rfl⟩ := hget i c hc
                      exact ⟨r0, by rw [denA_noP hk] at g1 ⊢; exact g1, g2, g3⟩
                    · obtain ⟨c, hc⟩ := Option.isSome_iff_exists.1 hi
                      obtain ⟨d, hd⟩ := Option.isSome_iff_exists.1 hj
                      rw [(hget i c hc).1, (hget j d hd).1]
                    · obtain ⟨rfl, rfl⟩ := hget i c hc
                      exact ⟨Nat.zero_lt_one, okL_mono noP_below hk⟩
                  have hcall := b8 (by rw [Good, h4]; exact hc) (fun _ => E b) w hmr
                  have hargs' : ((y :: rest).map (LV.den fun _ => E b)) = (x :: rest).map (LV.den E) := by
                    rw [List.map_cons, List.map_cons, ← r1, denL_noP hp', denL_noP (E := E) hp']
                  rw [hargs'] at hcall
                  obtain ⟨fn, f1, f2, f3⟩ := ho
                  refine .inl ⟨fn, f1, f2, f3, hcall.mono ?_⟩
                  rintro e w' ⟨Eo, rfl, hmr', hx⟩
                  have hpnb : p nb = false := hn nb (Nat.le_refl _) (by show nb < nb + 1; omega)
                  have hgnb : g nb = none := by
                    cases hgn : g nb with
                    | none => rfl
                    | some c => have := (hg nb c hgn).1; rw [hpnb] at this; cases this
                  have hbnb : b ≠ nb := fun e => by rw [e, hgnb] at hq; cases hq
                  have hk0 := hmr'.rel.blk 0 k' (by rw [h2]; exact hk')
                  have hkjb := hmr'.rel.blk j kj (by rw [h2]; exact hkj)
                  have e0 : Eo 0 = E b := hx.agree 0 (by show 0 < 1; omega)
                  have hnew : w.heap.size ≤ (Eo j).1 := by
                    rcases hx.src j (by rw [h2, hkj]; rfl) with h | ⟨i, hi, he⟩
                    · exact h
                    · exfalso
                      have he' : (Eo j).1 = (Eo 0).1 := by rw [he, e0]
                      have := hmr'.rel.inj j 0 (by rw [h2, hkj]; rfl) (by rw [h2, hk']; rfl) he'
                      omega
                  have hframe : ∀ j, j < w.heap.size → j ≠ (E b).1 → w'.heap[j]? = w.heap[j]? := fun j hj hne => hx.frame j hj fun i hi he => hne he.symm
                  have hlt : ∀ i c, g i = some c → (E i).1 < w.heap.size := fun i c hi => by
                    obtain ⟨r, u1, -⟩ := hrel.blk i c hi
                    exact (Array.getElem?_eq_some_iff.1 u1).1
                  generalize hE' : (fun i => if i = nb then Eo j else E i) = E'
                  have En : E' nb = Eo j := by rw [← hE']; simp
                  have Eold : ∀ i, i ≠ nb → E' i = E i := fun i hi => by rw [← hE']; simp [hi]
                  have hpo : ∀ i, p i = true → E i = E' i := fun i hi => (Eold i fun e => by rw [e, hpnb] at hi; cases hi).symm
                  have hgold : ∀ i c, g i = some c → i ≠ nb := fun i c hi e => by rw [e, hgnb] at hi; cases hi
                  have agr : ∀ i, (i < nb ∨ nb + 1 ≤ i) → i ≠ nb := fun i hi => by omega
                  refine ⟨_, rfl, E', renLV_den hren En, ?_⟩
                  refine ⟨fun i hi => Eold i (agr i hi), ⟨fun i c hic => ?_, fun i i2 hi hi2 he => ?_⟩, hx.os, hx.tape, hx.output, hx.size, fun j hj hne => hframe j hj fun e => hne b (by simp [hq]) e.symm, fun i h1 h2 => ?_⟩
                  · simp only [nwG, wrG] at hic
                    by_cases hi : i = nb
                    · subst hi
                      rw [if_pos rfl] at hic
                      cases hic
                      obtain ⟨r, u1, u2, u3⟩ := hkjb
                      exact ⟨r, by rw [En, denA_noP hokj (E := E')]; rw [denA_noP hokj] at u1; exact u1, u2, fun hz => by rw [En]; exact u3 hz⟩
                    · rw [if_neg hi] at hic
                      by_cases hib : i = b
                      · subst hib
                        rw [if_pos rfl] at hic
                        cases hic
                        obtain ⟨r, u1, u2, u3⟩ := hk0
                        rw [e0] at u1 u3
                        exact ⟨r, by rw [Eold _ hi, denA_noP hok' (E := E')]; rw [denA_noP hok'] at u1; exact u1, u2, fun hz => by rw [Eold _ hi]; exact u3 hz⟩
                      · rw [if_neg hib] at hic
                        obtain ⟨r, u1, u2, u3⟩ := hrel.blk i c hic
                        refine ⟨r, ?_, u2, fun hz => by rw [Eold _ hi]; exact u3 hz⟩
                        rw [Eold _ hi, hframe _ (hlt i c hic) (fun e => hib (hrel.inj i b (by simp [hic]) (by simp [hq]) e)), u1, denL_congr (p := p) hpo (hg i c hic).2]
                  · simp only [nwG, wrG] at hi hi2
                    have old : ∀ a, (if a = nb then some kj else if a = b then some k' else g a).isSome = true → a ≠ nb → (g a).isSome = true := by
                      intro a ha hne
                      rw [if_neg hne] at ha
                      by_cases hab : a = b
                      · rw [hab, hq]; rfl
                      · rwa [if_neg hab] at ha
                    by_cases h1 : i = nb <;> by_cases h2' : i2 = nb
                    · rw [h1, h2']
                    · exfalso
                      have ho2 := old i2 hi2 h2'
                      obtain ⟨c, hc2⟩ := Option.isSome_iff_exists.1 ho2
                      have := hlt i2 c hc2
                      rw [h1, En, Eold _ h2'] at he
                      omega
                    · exfalso
                      have ho1 := old i hi h1
                      obtain ⟨c, hc1⟩ := Option.isSome_iff_exists.1 ho1
                      have := hlt i c hc1
                      rw [h2', En, Eold _ h1] at he
                      omega
                    · rw [Eold _ h1, Eold _ h2'] at he
                      exact hrel.inj i i2 (old i hi h1) (old i2 hi2 h2') he
                  · have : i = nb := by
                      have h2'' : i < nb + 1 := h2
                      omega
                    rw [this, En]
                    exact .inl hnew
                · cases hgo
              · cases hgo
            · cases hgo
          · cases hgo
        · cases hgo
      · cases hgo
    · cases hs'
  · cases hs'

def eqNL : List Nat → List Nat → Bool
  | [], [] => true
  | a :: l, b :: m => match Nat.beq a b with
    | true => eqNL l m
    | false => false
  | _, _ => false
theorem eqNL_spec : ∀ {l m : List Nat}, eqNL l m = true → l = m
  | [], [], _ => rfl
  | a :: l, b :: m, h => by
    simp only [eqNL] at h
    split at h
    · rename_i hab
      rw [nbeq] at hab
      have : a = b := by simpa using hab
      rw [this, eqNL_spec h]
    · cases h
  | [], b :: m, h => by cases h
  | a :: l, [], h => by cases h

/-- The one, or else the other. -/
def orS (s1 s2 : Sum) : Sum := fun args =>
  match s1 args, s2 args with
  | some t1, some t2 => match eqNL t1.rd t2.rd, eqNL t1.wr t2.wr with
    | true, true => some ⟨t1.rd, t1.wr, fun r w nb => match t1.go r w nb with
      | some a => some a
      | none => t2.go r w nb⟩
    | _, _ => none
  | _, _ => none
theorem orS_ok {f : FuncId} {s1 s2 : Sum} (h1 : SumOK P f s1) (h2 : SumOK P f s2) : SumOK P f (orS s1 s2) := by
  intro args t g nb p rdB wrB ans ws E w hs hr hw hnd hgo hz hc hrel hg hargs hn
  unfold orS at hs
  split at hs
  · rename_i t1 t2 e1 e2
    split at hs
    · rename_i hrd hwr
      cases hs
      simp only at hgo hr hw hnd hz ⊢
      split at hgo
      · rename_i a ha
        cases hgo
        exact h1 args t1 g nb p rdB wrB _ ws E w e1 hr hw hnd ha hz hc hrel hg hargs hn
      · rw [eqNL_spec hrd] at hr
        rw [eqNL_spec hwr] at hw hnd hz
        exact h2 args t2 g nb p rdB wrB ans ws E w e2 hr hw hnd hgo hz hc hrel hg hargs hn
    · cases hs
  · cases hs
end
end Go.Lr

/- A height's samples, read by the program and looked at by the document's answer: runs (printed), and what they come to. -/
namespace Go.Proofs.Ythfanchjkkeejaa
open Go.Lr
set_option linter.unusedVariables false
set_option linter.unusedSimpArgs false

theorem r16varR1 (a b : Int) : (runF Try.prog R7S Zl 2000 38 [.v (.one (.int .i64 a)), .v (.one (.int .i64 b))] [] 0 []).map (fun r => (r.1, r.2.2.2)) = some (LV.v (V1.one (At.int IntKind.i64 (clampV (mulDivV (wr IntKind.i64 (a * a)) 17592186044416 b) 1 72057594037927936))), []) := by kernel_rfl
def r16varT (a b : Int) : Option (LV × List (Bool × Bool)) := some (LV.v (V1.one (At.int IntKind.i64 (clampV (mulDivV (wr IntKind.i64 (a * a)) 17592186044416 b) 1 72057594037927936))), [])
def r16varF : List LV → Option (LV × List (Bool × Bool))
  | [.v (.one (.int .i64 a)), .v (.one (.int .i64 b))] => r16varT a b
  | _ => none
theorem sumr16var : SumOK Try.prog 38 (pureSum r16varF) := by
  refine pureSum_run (z := Zl) soundR7 (own_of soundR7 Try.func38 (by kernel_rfl)) fun args v cs hF hc => ?_
  unfold r16varF at hF
  split at hF
  · rename_i a b
    unfold r16varT at hF
    cases hF
    exact ⟨2000, [], _, r16varR1 a b, ae_nil⟩
  · cases hF

theorem hbaroR1 (t v0 v1 v2 v3 v4 v5 v6 v7 : Int) (hb : Bool) : (runF Try.prog R7S Zl 2000 34 [A0, .v (.agg [.int .i64 t, .int .i64 v0, .int .i64 v1, .int .i64 v2, .int .i64 v3, .int .i64 v4, .int .i64 v5, .int .i64 v6, .int .i64 v7])] [(0, flag 27 hb)] 1 [some true, some true, some true, some true, some true, some true, none, none, none, none, none, none, none, none, none, none, none]).map acc3 = some (LV.tup [V1.agg [At.int IntKind.i64 0, At.int IntKind.i64 0], V1.one (At.int IntKind.i64 1)], some { ty := 27, fr := (0, 0), es := 0, cells := [At.bool hb] }, [(decide (v0 < -100000000), true), (decide (v0 < -100000000), true), (decide (v0 < -100000000), true), (decide (v0 < -100000000), true), (decide (v0 < -100000000), true), (decide (v0 < -100000000), true)]) := by kernel_rfl
theorem hbaroR2 (t v0 v1 v2 v3 v4 v5 v6 v7 : Int) (hb : Bool) : (runF Try.prog R7S Zl 2000 34 [A0, .v (.agg [.int .i64 t, .int .i64 v0, .int .i64 v1, .int .i64 v2, .int .i64 v3, .int .i64 v4, .int .i64 v5, .int .i64 v6, .int .i64 v7])] [(0, flag 27 hb)] 1 [some false, some false, some false, some false, some false, some false, some true, some true, some true, some true, some true, none, none, none, none, none, none]).map acc3 = some (LV.tup [V1.agg [At.int IntKind.i64 0, At.int IntKind.i64 0], V1.one (At.int IntKind.i64 1)], some { ty := 27, fr := (0, 0), es := 0, cells := [At.bool hb] }, [(decide (v0 > 100000000), true), (decide (v0 > 100000000), true), (decide (v0 > 100000000), true), (decide (v0 > 100000000), true), (decide (v0 > 100000000), true), (decide (v0 < -100000000), false), (decide (v0 < -100000000), false), (decide (v0 < -100000000), false), (decide (v0 < -100000000), false), (decide (v0 < -100000000), false), (decide (v0 < -100000000), false)]) := by kernel_rfl
theorem hbaroR3 (t v0 v1 v2 v3 v4 v5 v6 v7 : Int) (hb : Bool) : (runF Try.prog R7S Zl 2000 34 [A0, .v (.agg [.int .i64 t, .int .i64 v0, .int .i64 v1, .int .i64 v2, .int .i64 v3, .int .i64 v4, .int .i64 v5, .int .i64 v6, .int .i64 v7])] [(0, flag 27 hb)] 1 [some false, some false, some false, some false, some false, some false, some false, some false, some false, some false, some false, some true, some true, some true, some true, some true, none]).map acc3 = some (LV.tup [V1.agg [At.int IntKind.i64 0, At.int IntKind.i64 0], V1.one (At.int IntKind.i64 1)], some { ty := 27, fr := (0, 0), es := 0, cells := [At.bool hb] }, [(decide (v1 < 1), true), (decide (v1 < 1), true), (decide (v1 < 1), true), (decide (v1 < 1), true), (decide (v1 < 1), true), (decide (v0 > 100000000), false), (decide (v0 > 100000000), false), (decide (v0 > 100000000), false), (decide (v0 > 100000000), false), (decide (v0 > 100000000), false), (decide (v0 < -100000000), false), (decide (v0 < -100000000), false), (decide (v0 < -100000000), false), (decide (v0 < -100000000), false), (decide (v0 < -100000000), false), (decide (v0 < -100000000), false)]) := by kernel_rfl
theorem hbaroR4 (t v0 v1 v2 v3 v4 v5 v6 v7 : Int) (hb : Bool) : (runF Try.prog R7S Zl 2000 34 [A0, .v (.agg [.int .i64 t, .int .i64 v0, .int .i64 v1, .int .i64 v2, .int .i64 v3, .int .i64 v4, .int .i64 v5, .int .i64 v6, .int .i64 v7])] [(0, flag 27 hb)] 1 [some false, some false, some false, some false, some false, some false, some false, some false, some false, some false, some false, some false, some false, some false, some false, some false, some true]).map acc3 = some (LV.tup [V1.agg [At.int IntKind.i64 0, At.int IntKind.i64 0], V1.one (At.int IntKind.i64 1)], some { ty := 27, fr := (0, 0), es := 0, cells := [At.bool hb] }, [(decide (v1 > 1000000), true), (decide (v1 < 1), false), (decide (v1 < 1), false), (decide (v1 < 1), false), (decide (v1 < 1), false), (decide (v1 < 1), false), (decide (v0 > 100000000), false), (decide (v0 > 100000000), false), (decide (v0 > 100000000), false), (decide (v0 > 100000000), false), (decide (v0 > 100000000), false), (decide (v0 < -100000000), false), (decide (v0 < -100000000), false), (decide (v0 < -100000000), false), (decide (v0 < -100000000), false), (decide (v0 < -100000000), false), (decide (v0 < -100000000), false)]) := by kernel_rfl
theorem hbaroR5 (t v0 v1 v2 v3 v4 v5 v6 v7 : Int) (hb : Bool) : (runF Try.prog R7S Zl 2000 34 [A0, .v (.agg [.int .i64 t, .int .i64 v0, .int .i64 v1, .int .i64 v2, .int .i64 v3, .int .i64 v4, .int .i64 v5, .int .i64 v6, .int .i64 v7])] [(0, flag 27 hb)] 1 [some false, some false, some false, some false, some false, some false, some false, some false, some false, some false, some false, some false, some false, some false, some false, some false, some false]).map acc3 = some (LV.tup [V1.agg [At.int IntKind.i64 (mulDivV v0 1073741824 1000), At.int IntKind.i64 (clampV (mulDivV (wr IntKind.i64 (v1 * v1)) 17592186044416 1000000) 1 72057594037927936)], V1.one (At.int IntKind.i64 0)], some { ty := 27, fr := (0, 0), es := 0, cells := [At.bool (hb || mulDivH v0 1073741824 1000)] }, [(decide (v1 > 1000000), false), (decide (v1 < 1), false), (decide (v1 < 1), false), (decide (v1 < 1), false), (decide (v1 < 1), false), (decide (v1 < 1), false), (decide (v0 > 100000000), false), (decide (v0 > 100000000), false), (decide (v0 > 100000000), false), (decide (v0 > 100000000), false), (decide (v0 > 100000000), false), (decide (v0 < -100000000), false), (decide (v0 < -100000000), false), (decide (v0 < -100000000), false), (decide (v0 < -100000000), false), (decide (v0 < -100000000), false), (decide (v0 < -100000000), false)]) := by kernel_rfl
def hbaroT (t v0 v1 v2 v3 v4 v5 v6 v7 : Int) (hb : Bool) : Option (LV × Bool × List (Bool × Bool)) := 
  bif (decide (v0 < -100000000)) then some (LV.tup [V1.agg [At.int IntKind.i64 0, At.int IntKind.i64 0], V1.one (At.int IntKind.i64 1)], (hb), [])
  else 
    bif (decide (v0 > 100000000)) then some (LV.tup [V1.agg [At.int IntKind.i64 0, At.int IntKind.i64 0], V1.one (At.int IntKind.i64 1)], (hb), [])
    else 
      bif (decide (v1 < 1)) then some (LV.tup [V1.agg [At.int IntKind.i64 0, At.int IntKind.i64 0], V1.one (At.int IntKind.i64 1)], (hb), [])
      else 
        bif (decide (v1 > 1000000)) then some (LV.tup [V1.agg [At.int IntKind.i64 0, At.int IntKind.i64 0], V1.one (At.int IntKind.i64 1)], (hb), [])
        else some (LV.tup [V1.agg [At.int IntKind.i64 (mulDivV v0 1073741824 1000), At.int IntKind.i64 (clampV (mulDivV (wr IntKind.i64 (v1 * v1)) 17592186044416 1000000) 1 72057594037927936)], V1.one (At.int IntKind.i64 0)], (hb || mulDivH v0 1073741824 1000), [])
def hbaroF : List LV → Bool → Option (LV × Bool × List (Bool × Bool))
  | [.v (.agg [.int .i64 t, .int .i64 v0, .int .i64 v1, .int .i64 v2, .int .i64 v3, .int .i64 v4, .int .i64 v5, .int .i64 v6, .int .i64 v7])], hb => hbaroT t v0 v1 v2 v3 v4 v5 v6 v7 hb
  | _, _ => none
theorem sumhbaro : SumOK Try.prog 34 (accSum 27 hbaroF) := by
  refine accSum_run (z := Zl) soundR7 (own_of soundR7 Try.func34 (by kernel_rfl)) fun args hb v h' cs hF hc => ?_
  unfold hbaroF at hF
  split at hF
  · rename_i t v0 v1 v2 v3 v4 v5 v6 v7
    unfold hbaroT at hF
    rcases bool_cases (decide (v0 < -100000000)) with h0 | h0
    · rw [cond_t h0] at hF
      cases hF
      exact ⟨rfl, 2000, [some true, some true, some true, some true, some true, some true, none, none, none, none, none, none, none, none, none, none, none], _, hbaroR1 t v0 v1 v2 v3 v4 v5 v6 v7 hb, ae_cons (h0) (ae_cons (h0) (ae_cons (h0) (ae_cons (h0) (ae_cons (h0) (ae_cons (h0) (ae_nil))))))⟩
    · rw [cond_f h0] at hF
      rcases bool_cases (decide (v0 > 100000000)) with h1 | h1
      · rw [cond_t h1] at hF
        cases hF
        exact ⟨rfl, 2000, [some false, some false, some false, some false, some false, some false, some true, some true, some true, some true, some true, none, none, none, none, none, none], _, hbaroR2 t v0 v1 v2 v3 v4 v5 v6 v7 hb, ae_cons (h1) (ae_cons (h1) (ae_cons (h1) (ae_cons (h1) (ae_cons (h1) (ae_cons (h0) (ae_cons (h0) (ae_cons (h0) (ae_cons (h0) (ae_cons (h0) (ae_cons (h0) (ae_nil)))))))))))⟩
      · rw [cond_f h1] at hF
        rcases bool_cases (decide (v1 < 1)) with h2 | h2
        · rw [cond_t h2] at hF
          cases hF
          exact ⟨rfl, 2000, [some false, some false, some false, some false, some false, some false, some false, some false, some false, some false, some false, some true, some true, some true, some true, some true, none], _, hbaroR3 t v0 v1 v2 v3 v4 v5 v6 v7 hb, ae_cons (h2) (ae_cons (h2) (ae_cons (h2) (ae_cons (h2) (ae_cons (h2) (ae_cons (h1) (ae_cons (h1) (ae_cons (h1) (ae_cons (h1) (ae_cons (h1) (ae_cons (h0) (ae_cons (h0) (ae_cons (h0) (ae_cons (h0) (ae_cons (h0) (ae_cons (h0) (ae_nil))))))))))))))))⟩
        · rw [cond_f h2] at hF
          rcases bool_cases (decide (v1 > 1000000)) with h3 | h3
          · rw [cond_t h3] at hF
            cases hF
            exact ⟨rfl, 2000, [some false, some false, some false, some false, some false, some false, some false, some false, some false, some false, some false, some false, some false, some false, some false, some false, some true], _, hbaroR4 t v0 v1 v2 v3 v4 v5 v6 v7 hb, ae_cons (h3) (ae_cons (h2) (ae_cons (h2) (ae_cons (h2) (ae_cons (h2) (ae_cons (h2) (ae_cons (h1) (ae_cons (h1) (ae_cons (h1) (ae_cons (h1) (ae_cons (h1) (ae_cons (h0) (ae_cons (h0) (ae_cons (h0) (ae_cons (h0) (ae_cons (h0) (ae_cons (h0) (ae_nil)))))))))))))))))⟩
          · rw [cond_f h3] at hF
            cases hF
            exact ⟨rfl, 2000, [some false, some false, some false, some false, some false, some false, some false, some false, some false, some false, some false, some false, some false, some false, some false, some false, some false], _, hbaroR5 t v0 v1 v2 v3 v4 v5 v6 v7 hb, ae_cons (h3) (ae_cons (h2) (ae_cons (h2) (ae_cons (h2) (ae_cons (h2) (ae_cons (h2) (ae_cons (h1) (ae_cons (h1) (ae_cons (h1) (ae_cons (h1) (ae_cons (h1) (ae_cons (h0) (ae_cons (h0) (ae_cons (h0) (ae_cons (h0) (ae_cons (h0) (ae_cons (h0) (ae_nil)))))))))))))))))⟩
  · cases hF

theorem hrangeR1 (t v0 v1 v2 v3 v4 v5 v6 v7 : Int) (hb : Bool) : (runF Try.prog R7S Zl 2000 35 [A0, .v (.agg [.int .i64 t, .int .i64 v0, .int .i64 v1, .int .i64 v2, .int .i64 v3, .int .i64 v4, .int .i64 v5, .int .i64 v6, .int .i64 v7])] [(0, flag 27 hb)] 1 [some true, some true, some true, some true, some true, none]).map acc3 = some (LV.tup [V1.agg [At.int IntKind.i64 0, At.int IntKind.i64 0, At.int IntKind.i64 0], V1.one (At.int IntKind.i64 1)], some { ty := 27, fr := (0, 0), es := 0, cells := [At.bool hb] }, [(decide (v2 < 0), true), (decide (v2 < 0), true), (decide (v2 < 0), true), (decide (v2 < 0), true), (decide (v2 < 0), true)]) := by kernel_rfl
theorem hrangeR2 (t v0 v1 v2 v3 v4 v5 v6 v7 : Int) (hb : Bool) : (runF Try.prog R7S Zl 2000 35 [A0, .v (.agg [.int .i64 t, .int .i64 v0, .int .i64 v1, .int .i64 v2, .int .i64 v3, .int .i64 v4, .int .i64 v5, .int .i64 v6, .int .i64 v7])] [(0, flag 27 hb)] 1 [some false, some false, some false, some false, some false, some true]).map acc3 = some (LV.tup [V1.agg [At.int IntKind.i64 0, At.int IntKind.i64 0, At.int IntKind.i64 0], V1.one (At.int IntKind.i64 1)], some { ty := 27, fr := (0, 0), es := 0, cells := [At.bool hb] }, [(decide (v2 > 100), true), (decide (v2 < 0), false), (decide (v2 < 0), false), (decide (v2 < 0), false), (decide (v2 < 0), false), (decide (v2 < 0), false)]) := by kernel_rfl
theorem hrangeR3 (t v0 v1 v2 v3 v4 v5 v6 v7 : Int) (hb : Bool) : (runF Try.prog R7S Zl 2000 35 [A0, .v (.agg [.int .i64 t, .int .i64 v0, .int .i64 v1, .int .i64 v2, .int .i64 v3, .int .i64 v4, .int .i64 v5, .int .i64 v6, .int .i64 v7])] [(0, flag 27 hb)] 1 [some false, some false, some false, some false, some false, some false, some true, some true, some true, some true, some true, some true, none, none, none, none, none, none, none, none, none, none, none, none]).map acc3 = some (LV.tup [V1.agg [At.int IntKind.i64 0, At.int IntKind.i64 0, At.int IntKind.i64 0], V1.one (At.int IntKind.i64 1)], some { ty := 27, fr := (0, 0), es := 0, cells := [At.bool hb] }, [(decide (v0 < 1), true), (decide (v0 < 1), true), (decide (v0 < 1), true), (decide (v0 < 1), true), (decide (v0 < 1), true), (decide (v0 < 1), true), (decide (v2 > 100), false), (decide (v2 < 0), false), (decide (v2 < 0), false), (decide (v2 < 0), false), (decide (v2 < 0), false), (decide (v2 < 0), false)]) := by kernel_rfl
theorem hrangeR4 (t v0 v1 v2 v3 v4 v5 v6 v7 : Int) (hb : Bool) : (runF Try.prog R7S Zl 2000 35 [A0, .v (.agg [.int .i64 t, .int .i64 v0, .int .i64 v1, .int .i64 v2, .int .i64 v3, .int .i64 v4, .int .i64 v5, .int .i64 v6, .int .i64 v7])] [(0, flag 27 hb)] 1 [some false, some false, some false, some false, some false, some false, some false, some false, some false, some false, some false, some false, some true, some true, some true, some true, some true, none, none, none, none, none, none, none]).map acc3 = some (LV.tup [V1.agg [At.int IntKind.i64 0, At.int IntKind.i64 0, At.int IntKind.i64 0], V1.one (At.int IntKind.i64 1)], some { ty := 27, fr := (0, 0), es := 0, cells := [At.bool hb] }, [(decide (v0 > 1000000), true), (decide (v0 > 1000000), true), (decide (v0 > 1000000), true), (decide (v0 > 1000000), true), (decide (v0 > 1000000), true), (decide (v0 < 1), false), (decide (v0 < 1), false), (decide (v0 < 1), false), (decide (v0 < 1), false), (decide (v0 < 1), false), (decide (v0 < 1), false), (decide (v2 > 100), false), (decide (v2 < 0), false), (decide (v2 < 0), false), (decide (v2 < 0), false), (decide (v2 < 0), false), (decide (v2 < 0), false)]) := by kernel_rfl
theorem hrangeR5 (t v0 v1 v2 v3 v4 v5 v6 v7 : Int) (hb : Bool) : (runF Try.prog R7S Zl 2000 35 [A0, .v (.agg [.int .i64 t, .int .i64 v0, .int .i64 v1, .int .i64 v2, .int .i64 v3, .int .i64 v4, .int .i64 v5, .int .i64 v6, .int .i64 v7])] [(0, flag 27 hb)] 1 [some false, some false, some false, some false, some false, some false, some false, some false, some false, some false, some false, some false, some false, some false, some false, some false, some false, some true, some true, some true, some true, some true, none, none]).map acc3 = some (LV.tup [V1.agg [At.int IntKind.i64 0, At.int IntKind.i64 0, At.int IntKind.i64 0], V1.one (At.int IntKind.i64 1)], some { ty := 27, fr := (0, 0), es := 0, cells := [At.bool hb] }, [(decide (v1 < 1), true), (decide (v1 < 1), true), (decide (v1 < 1), true), (decide (v1 < 1), true), (decide (v1 < 1), true), (decide (v0 > 1000000), false), (decide (v0 > 1000000), false), (decide (v0 > 1000000), false), (decide (v0 > 1000000), false), (decide (v0 > 1000000), false), (decide (v0 < 1), false), (decide (v0 < 1), false), (decide (v0 < 1), false), (decide (v0 < 1), false), (decide (v0 < 1), false), (decide (v0 < 1), false), (decide (v2 > 100), false), (decide (v2 < 0), false), (decide (v2 < 0), false), (decide (v2 < 0), false), (decide (v2 < 0), false), (decide (v2 < 0), false)]) := by kernel_rfl
theorem hrangeR6 (t v0 v1 v2 v3 v4 v5 v6 v7 : Int) (hb : Bool) : (runF Try.prog R7S Zl 2000 35 [A0, .v (.agg [.int .i64 t, .int .i64 v0, .int .i64 v1, .int .i64 v2, .int .i64 v3, .int .i64 v4, .int .i64 v5, .int .i64 v6, .int .i64 v7])] [(0, flag 27 hb)] 1 [some false, some false, some false, some false, some false, some false, some false, some false, some false, some false, some false, some false, some false, some false, some false, some false, some false, some false, some false, some false, some false, some false, some true, none]).map acc3 = some (LV.tup [V1.agg [At.int IntKind.i64 0, At.int IntKind.i64 0, At.int IntKind.i64 0], V1.one (At.int IntKind.i64 1)], some { ty := 27, fr := (0, 0), es := 0, cells := [At.bool hb] }, [(decide (v1 > 1000000), true), (decide (v1 < 1), false), (decide (v1 < 1), false), (decide (v1 < 1), false), (decide (v1 < 1), false), (decide (v1 < 1), false), (decide (v0 > 1000000), false), (decide (v0 > 1000000), false), (decide (v0 > 1000000), false), (decide (v0 > 1000000), false), (decide (v0 > 1000000), false), (decide (v0 < 1), false), (decide (v0 < 1), false), (decide (v0 < 1), false), (decide (v0 < 1), false), (decide (v0 < 1), false), (decide (v0 < 1), false), (decide (v2 > 100), false), (decide (v2 < 0), false), (decide (v2 < 0), false), (decide (v2 < 0), false), (decide (v2 < 0), false), (decide (v2 < 0), false)]) := by kernel_rfl
theorem hrangeR7 (t v0 v1 v2 v3 v4 v5 v6 v7 : Int) (hb : Bool) : (runF Try.prog R7S Zl 2000 35 [A0, .v (.agg [.int .i64 t, .int .i64 v0, .int .i64 v1, .int .i64 v2, .int .i64 v3, .int .i64 v4, .int .i64 v5, .int .i64 v6, .int .i64 v7])] [(0, flag 27 hb)] 1 [some false, some false, some false, some false, some false, some false, some false, some false, some false, some false, some false, some false, some false, some false, some false, some false, some false, some false, some false, some false, some false, some false, some false, none]).map acc3 = some (LV.tup [V1.agg [At.int IntKind.i64 (mulDivV v0 1073741824 1000), At.int IntKind.i64 (clampV (mulDivV (wr IntKind.i64 (v1 * v1)) 17592186044416 1000000) 1 72057594037927936), At.int IntKind.i64 v2], V1.one (At.int IntKind.i64 0)], some { ty := 27, fr := (0, 0), es := 0, cells := [At.bool (hb || mulDivH v0 1073741824 1000)] }, [(decide (v1 > 1000000), false), (decide (v1 < 1), false), (decide (v1 < 1), false), (decide (v1 < 1), false), (decide (v1 < 1), false), (decide (v1 < 1), false), (decide (v0 > 1000000), false), (decide (v0 > 1000000), false), (decide (v0 > 1000000), false), (decide (v0 > 1000000), false), (decide (v0 > 1000000), false), (decide (v0 < 1), false), (decide (v0 < 1), false), (decide (v0 < 1), false), (decide (v0 < 1), false), (decide (v0 < 1), false), (decide (v0 < 1), false), (decide (v2 > 100), false), (decide (v2 < 0), false), (decide (v2 < 0), false), (decide (v2 < 0), false), (decide (v2 < 0), false), (decide (v2 < 0), false)]) := by kernel_rfl
def hrangeT (t v0 v1 v2 v3 v4 v5 v6 v7 : Int) (hb : Bool) : Option (LV × Bool × List (Bool × Bool)) := 
  bif (decide (v2 < 0)) then some (LV.tup [V1.agg [At.int IntKind.i64 0, At.int IntKind.i64 0, At.int IntKind.i64 0], V1.one (At.int IntKind.i64 1)], (hb), [])
  else 
    bif (decide (v2 > 100)) then some (LV.tup [V1.agg [At.int IntKind.i64 0, At.int IntKind.i64 0, At.int IntKind.i64 0], V1.one (At.int IntKind.i64 1)], (hb), [])
    else 
      bif (decide (v0 < 1)) then some (LV.tup [V1.agg [At.int IntKind.i64 0, At.int IntKind.i64 0, At.int IntKind.i64 0], V1.one (At.int IntKind.i64 1)], (hb), [])
      else 
        bif (decide (v0 > 1000000)) then some (LV.tup [V1.agg [At.int IntKind.i64 0, At.int IntKind.i64 0, At.int IntKind.i64 0], V1.one (At.int IntKind.i64 1)], (hb), [])
        else 
          bif (decide (v1 < 1)) then some (LV.tup [V1.agg [At.int IntKind.i64 0, At.int IntKind.i64 0, At.int IntKind.i64 0], V1.one (At.int IntKind.i64 1)], (hb), [])
          else 
            bif (decide (v1 > 1000000)) then some (LV.tup [V1.agg [At.int IntKind.i64 0, At.int IntKind.i64 0, At.int IntKind.i64 0], V1.one (At.int IntKind.i64 1)], (hb), [])
            else some (LV.tup [V1.agg [At.int IntKind.i64 (mulDivV v0 1073741824 1000), At.int IntKind.i64 (clampV (mulDivV (wr IntKind.i64 (v1 * v1)) 17592186044416 1000000) 1 72057594037927936), At.int IntKind.i64 v2], V1.one (At.int IntKind.i64 0)], (hb || mulDivH v0 1073741824 1000), [])
def hrangeF : List LV → Bool → Option (LV × Bool × List (Bool × Bool))
  | [.v (.agg [.int .i64 t, .int .i64 v0, .int .i64 v1, .int .i64 v2, .int .i64 v3, .int .i64 v4, .int .i64 v5, .int .i64 v6, .int .i64 v7])], hb => hrangeT t v0 v1 v2 v3 v4 v5 v6 v7 hb
  | _, _ => none
theorem sumhrange : SumOK Try.prog 35 (accSum 27 hrangeF) := by
  refine accSum_run (z := Zl) soundR7 (own_of soundR7 Try.func35 (by kernel_rfl)) fun args hb v h' cs hF hc => ?_
  unfold hrangeF at hF
  split at hF
  · rename_i t v0 v1 v2 v3 v4 v5 v6 v7
    unfold hrangeT at hF
    rcases bool_cases (decide (v2 < 0)) with h0 | h0
    · rw [cond_t h0] at hF
      cases hF
      exact ⟨rfl, 2000, [some true, some true, some true, some true, some true, none], _, hrangeR1 t v0 v1 v2 v3 v4 v5 v6 v7 hb, ae_cons (h0) (ae_cons (h0) (ae_cons (h0) (ae_cons (h0) (ae_cons (h0) (ae_nil)))))⟩
    · rw [cond_f h0] at hF
      rcases bool_cases (decide (v2 > 100)) with h1 | h1
      · rw [cond_t h1] at hF
        cases hF
        exact ⟨rfl, 2000, [some false, some false, some false, some false, some false, some true], _, hrangeR2 t v0 v1 v2 v3 v4 v5 v6 v7 hb, ae_cons (h1) (ae_cons (h0) (ae_cons (h0) (ae_cons (h0) (ae_cons (h0) (ae_cons (h0) (ae_nil))))))⟩
      · rw [cond_f h1] at hF
        rcases bool_cases (decide (v0 < 1)) with h2 | h2
        · rw [cond_t h2] at hF
          cases hF
          exact ⟨rfl, 2000, [some false, some false, some false, some false, some false, some false, some true, some true, some true, some true, some true, some true, none, none, none, none, none, none, none, none, none, none, none, none], _, hrangeR3 t v0 v1 v2 v3 v4 v5 v6 v7 hb, ae_cons (h2) (ae_cons (h2) (ae_cons (h2) (ae_cons (h2) (ae_cons (h2) (ae_cons (h2) (ae_cons (h1) (ae_cons (h0) (ae_cons (h0) (ae_cons (h0) (ae_cons (h0) (ae_cons (h0) (ae_nil))))))))))))⟩
        · rw [cond_f h2] at hF
          rcases bool_cases (decide (v0 > 1000000)) with h3 | h3
          · rw [cond_t h3] at hF
            cases hF
            exact ⟨rfl, 2000, [some false, some false, some false, some false, some false, some false, some false, some false, some false, some false, some false, some false, some true, some true, some true, some true, some true, none, none, none, none, none, none, none], _, hrangeR4 t v0 v1 v2 v3 v4 v5 v6 v7 hb, ae_cons (h3) (ae_cons (h3) (ae_cons (h3) (ae_cons (h3) (ae_cons (h3) (ae_cons (h2) (ae_cons (h2) (ae_cons (h2) (ae_cons (h2) (ae_cons (h2) (ae_cons (h2) (ae_cons (h1) (ae_cons (h0) (ae_cons (h0) (ae_cons (h0) (ae_cons (h0) (ae_cons (h0) (ae_nil)))))))))))))))))⟩
          · rw [cond_f h3] at hF
            rcases bool_cases (decide (v1 < 1)) with h4 | h4
            · rw [cond_t h4] at hF
              cases hF
              exact ⟨rfl, 2000, [some false, some false, some false, some false, some false, some false, some false, some false, some false, some false, some false, some false, some false, some false, some false, some false, some false, some true, some true, some true, some true, some true, none, none], _, hrangeR5 t v0 v1 v2 v3 v4 v5 v6 v7 hb, ae_cons (h4) (ae_cons (h4) (ae_cons (h4) (ae_cons (h4) (ae_cons (h4) (ae_cons (h3) (ae_cons (h3) (ae_cons (h3) (ae_cons (h3) (ae_cons (h3) (ae_cons (h2) (ae_cons (h2) (ae_cons (h2) (ae_cons (h2) (ae_cons (h2) (ae_cons (h2) (ae_cons (h1) (ae_cons (h0) (ae_cons (h0) (ae_cons (h0) (ae_cons (h0) (ae_cons (h0) (ae_nil))))))))))))))))))))))⟩
            · rw [cond_f h4] at hF
              rcases bool_cases (decide (v1 > 1000000)) with h5 | h5
              · rw [cond_t h5] at hF
                cases hF
                exact ⟨rfl, 2000, [some false, some false, some false, some false, some false, some false, some false, some false, some false, some false, some false, some false, some false, some false, some false, some false, some false, some false, some false, some false, some false, some false, some true, none], _, hrangeR6 t v0 v1 v2 v3 v4 v5 v6 v7 hb, ae_cons (h5) (ae_cons (h4) (ae_cons (h4) (ae_cons (h4) (ae_cons (h4) (ae_cons (h4) (ae_cons (h3) (ae_cons (h3) (ae_cons (h3) (ae_cons (h3) (ae_cons (h3) (ae_cons (h2) (ae_cons (h2) (ae_cons (h2) (ae_cons (h2) (ae_cons (h2) (ae_cons (h2) (ae_cons (h1) (ae_cons (h0) (ae_cons (h0) (ae_cons (h0) (ae_cons (h0) (ae_cons (h0) (ae_nil)))))))))))))))))))))))⟩
              · rw [cond_f h5] at hF
                cases hF
                exact ⟨rfl, 2000, [some false, some false, some false, some false, some false, some false, some false, some false, some false, some false, some false, some false, some false, some false, some false, some false, some false, some false, some false, some false, some false, some false, some false, none], _, hrangeR7 t v0 v1 v2 v3 v4 v5 v6 v7 hb, ae_cons (h5) (ae_cons (h4) (ae_cons (h4) (ae_cons (h4) (ae_cons (h4) (ae_cons (h4) (ae_cons (h3) (ae_cons (h3) (ae_cons (h3) (ae_cons (h3) (ae_cons (h3) (ae_cons (h2) (ae_cons (h2) (ae_cons (h2) (ae_cons (h2) (ae_cons (h2) (ae_cons (h2) (ae_cons (h1) (ae_cons (h0) (ae_cons (h0) (ae_cons (h0) (ae_cons (h0) (ae_cons (h0) (ae_nil)))))))))))))))))))))))⟩
  · cases hF

theorem spoil1R1 (t v0 v1 v2 v3 v4 v5 v6 v7 : Int) : (runF Try.prog R7S Zl 2000 36 [.v (.one (.int .i64 1)), .v (.agg [.int .i64 t, .int .i64 v0, .int .i64 v1, .int .i64 v2, .int .i64 v3, .int .i64 v4, .int .i64 v5, .int .i64 v6, .int .i64 v7])] [] 0 [none, none, some true, some true, some true, some true, some true, some true, some true, some true, some true]).map (fun r => (r.1, r.2.2.2)) = some (LV.v (V1.one (At.bool true)), [(!decide (v0 ≤ 100000000), true), (!decide (v0 ≤ 100000000), true), (!decide (v0 ≤ 100000000), true), (!decide (v0 ≤ 100000000), true), (!decide (v0 ≤ 100000000), true), (decide (v0 ≥ -100000000), true), (decide (v0 ≥ -100000000), true), (decide (v0 ≥ -100000000), true), (decide (v0 ≥ -100000000), true)]) := by kernel_rfl
theorem spoil1R2 (t v0 v1 v2 v3 v4 v5 v6 v7 : Int) : (runF Try.prog R7S Zl 2000 36 [.v (.one (.int .i64 1)), .v (.agg [.int .i64 t, .int .i64 v0, .int .i64 v1, .int .i64 v2, .int .i64 v3, .int .i64 v4, .int .i64 v5, .int .i64 v6, .int .i64 v7])] [] 0 [none, none, some true, some true, some true, some true, some false, some false, some false, some true, some true, some true, some true, some false, some false]).map (fun r => (r.1, r.2.2.2)) = some (LV.v (V1.one (At.bool !decide (v1 ≤ 1000000))), [(!decide (v0 ≤ 100000000), false), (!decide (v0 ≤ 100000000), false), (decide (v1 ≥ 1), true), (decide (v1 ≥ 1), true), (decide (v1 ≥ 1), true), (decide (v1 ≥ 1), true), (!decide (v0 ≤ 100000000), false), (!decide (v0 ≤ 100000000), false), (!decide (v0 ≤ 100000000), false), (decide (v0 ≥ -100000000), true), (decide (v0 ≥ -100000000), true), (decide (v0 ≥ -100000000), true), (decide (v0 ≥ -100000000), true)]) := by kernel_rfl
theorem spoil1R3 (t v0 v1 v2 v3 v4 v5 v6 v7 : Int) : (runF Try.prog R7S Zl 2000 36 [.v (.one (.int .i64 1)), .v (.agg [.int .i64 t, .int .i64 v0, .int .i64 v1, .int .i64 v2, .int .i64 v3, .int .i64 v4, .int .i64 v5, .int .i64 v6, .int .i64 v7])] [] 0 [none, none, some true, some true, some true, some true, some false, some false, some false, some false, some false, some false, some false, some false, some false]).map (fun r => (r.1, r.2.2.2)) = some (LV.v (V1.one (At.bool !false)), [(!decide (v0 ≤ 100000000), false), (!decide (v0 ≤ 100000000), false), (decide (v1 ≥ 1), false), (decide (v1 ≥ 1), false), (decide (v1 ≥ 1), false), (decide (v1 ≥ 1), false), (!decide (v0 ≤ 100000000), false), (!decide (v0 ≤ 100000000), false), (!decide (v0 ≤ 100000000), false), (decide (v0 ≥ -100000000), true), (decide (v0 ≥ -100000000), true), (decide (v0 ≥ -100000000), true), (decide (v0 ≥ -100000000), true)]) := by kernel_rfl
theorem spoil1R4 (t v0 v1 v2 v3 v4 v5 v6 v7 : Int) : (runF Try.prog R7S Zl 2000 36 [.v (.one (.int .i64 1)), .v (.agg [.int .i64 t, .int .i64 v0, .int .i64 v1, .int .i64 v2, .int .i64 v3, .int .i64 v4, .int .i64 v5, .int .i64 v6, .int .i64 v7])] [] 0 [none, none, some false, some false, some false, some false, none, none, none, none, none]).map (fun r => (r.1, r.2.2.2)) = some (LV.v (V1.one (At.bool true)), [(decide (v0 ≥ -100000000), false), (decide (v0 ≥ -100000000), false), (decide (v0 ≥ -100000000), false), (decide (v0 ≥ -100000000), false)]) := by kernel_rfl
def spoil1T (t v0 v1 v2 v3 v4 v5 v6 v7 : Int) : Option (LV × List (Bool × Bool)) := 
  bif (decide (v0 ≥ -100000000)) then 
    bif (!decide (v0 ≤ 100000000)) then some (LV.v (V1.one (At.bool true)), [])
    else 
      bif (decide (v1 ≥ 1)) then some (LV.v (V1.one (At.bool !decide (v1 ≤ 1000000))), [])
      else some (LV.v (V1.one (At.bool !false)), [])
  else some (LV.v (V1.one (At.bool true)), [])
def spoil1F : List LV → Option (LV × List (Bool × Bool))
  | [.v (.one (.int .i64 1)), .v (.agg [.int .i64 t, .int .i64 v0, .int .i64 v1, .int .i64 v2, .int .i64 v3, .int .i64 v4, .int .i64 v5, .int .i64 v6, .int .i64 v7])] => spoil1T t v0 v1 v2 v3 v4 v5 v6 v7
  | _ => none
theorem sumspoil1 : SumOK Try.prog 36 (pureSum spoil1F) := by
  refine pureSum_run (z := Zl) soundR7 (own_of soundR7 Try.func36 (by kernel_rfl)) fun args v cs hF hc => ?_
  unfold spoil1F at hF
  split at hF
  · rename_i t v0 v1 v2 v3 v4 v5 v6 v7
    unfold spoil1T at hF
    rcases bool_cases (decide (v0 ≥ -100000000)) with h0 | h0
    · rw [cond_t h0] at hF
      rcases bool_cases (!decide (v0 ≤ 100000000)) with h1 | h1
      · rw [cond_t h1] at hF
        cases hF
        exact ⟨2000, [none, none, some true, some true, some true, some true, some true, some true, some true, some true, some true], _, spoil1R1 t v0 v1 v2 v3 v4 v5 v6 v7, ae_cons (h1) (ae_cons (h1) (ae_cons (h1) (ae_cons (h1) (ae_cons (h1) (ae_cons (h0) (ae_cons (h0) (ae_cons (h0) (ae_cons (h0) (ae_nil)))))))))⟩
      · rw [cond_f h1] at hF
        rcases bool_cases (decide (v1 ≥ 1)) with h2 | h2
        · rw [cond_t h2] at hF
          cases hF
          exact ⟨2000, [none, none, some true, some true, some true, some true, some false, some false, some false, some true, some true, some true, some true, some false, some false], _, spoil1R2 t v0 v1 v2 v3 v4 v5 v6 v7, ae_cons (h1) (ae_cons (h1) (ae_cons (h2) (ae_cons (h2) (ae_cons (h2) (ae_cons (h2) (ae_cons (h1) (ae_cons (h1) (ae_cons (h1) (ae_cons (h0) (ae_cons (h0) (ae_cons (h0) (ae_cons (h0) (ae_nil)))))))))))))⟩
        · rw [cond_f h2] at hF
          cases hF
          exact ⟨2000, [none, none, some true, some true, some true, some true, some false, some false, some false, some false, some false, some false, some false, some false, some false], _, spoil1R3 t v0 v1 v2 v3 v4 v5 v6 v7, ae_cons (h1) (ae_cons (h1) (ae_cons (h2) (ae_cons (h2) (ae_cons (h2) (ae_cons (h2) (ae_cons (h1) (ae_cons (h1) (ae_cons (h1) (ae_cons (h0) (ae_cons (h0) (ae_cons (h0) (ae_cons (h0) (ae_nil)))))))))))))⟩
    · rw [cond_f h0] at hF
      cases hF
      exact ⟨2000, [none, none, some false, some false, some false, some false, none, none, none, none, none], _, spoil1R4 t v0 v1 v2 v3 v4 v5 v6 v7, ae_cons (h0) (ae_cons (h0) (ae_cons (h0) (ae_cons (h0) (ae_nil))))⟩
  · cases hF

theorem spoil2R1 (t v0 v1 v2 v3 v4 v5 v6 v7 : Int) : (runF Try.prog R7S Zl 2000 36 [.v (.one (.int .i64 2)), .v (.agg [.int .i64 t, .int .i64 v0, .int .i64 v1, .int .i64 v2, .int .i64 v3, .int .i64 v4, .int .i64 v5, .int .i64 v6, .int .i64 v7])] [] 0 [none, none, none, some true, some true, some true, some true, some true, some true, some true, some true, some true, none, none, none, none, none]).map (fun r => (r.1, r.2.2.2)) = some (LV.v (V1.one (At.bool true)), [(!decide (v0 ≤ 1000000), true), (!decide (v0 ≤ 1000000), true), (!decide (v0 ≤ 1000000), true), (!decide (v0 ≤ 1000000), true), (!decide (v0 ≤ 1000000), true), (decide (v0 ≥ 1), true), (decide (v0 ≥ 1), true), (decide (v0 ≥ 1), true), (decide (v0 ≥ 1), true)]) := by kernel_rfl
theorem spoil2R2 (t v0 v1 v2 v3 v4 v5 v6 v7 : Int) : (runF Try.prog R7S Zl 2000 36 [.v (.one (.int .i64 2)), .v (.agg [.int .i64 t, .int .i64 v0, .int .i64 v1, .int .i64 v2, .int .i64 v3, .int .i64 v4, .int .i64 v5, .int .i64 v6, .int .i64 v7])] [] 0 [none, none, none, some true, some true, some true, some true, some false, some false, some false, some true, some true, some true, some true, some false, some false, some true, some true, some true, some true, some true]).map (fun r => (r.1, r.2.2.2)) = some (LV.v (V1.one (At.bool true)), [(!decide (v1 ≤ 1000000), true), (!decide (v1 ≤ 1000000), true), (!decide (v1 ≤ 1000000), true), (!decide (v1 ≤ 1000000), true), (!decide (v1 ≤ 1000000), true), (!decide (v0 ≤ 1000000), false), (!decide (v0 ≤ 1000000), false), (decide (v1 ≥ 1), true), (decide (v1 ≥ 1), true), (decide (v1 ≥ 1), true), (decide (v1 ≥ 1), true), (!decide (v0 ≤ 1000000), false), (!decide (v0 ≤ 1000000), false), (!decide (v0 ≤ 1000000), false), (decide (v0 ≥ 1), true), (decide (v0 ≥ 1), true), (decide (v0 ≥ 1), true), (decide (v0 ≥ 1), true)]) := by kernel_rfl
theorem spoil2R3 (t v0 v1 v2 v3 v4 v5 v6 v7 : Int) : (runF Try.prog R7S Zl 2000 36 [.v (.one (.int .i64 2)), .v (.agg [.int .i64 t, .int .i64 v0, .int .i64 v1, .int .i64 v2, .int .i64 v3, .int .i64 v4, .int .i64 v5, .int .i64 v6, .int .i64 v7])] [] 0 [none, none, none, some true, some true, some true, some true, some false, some false, some false, some true, some true, some true, some true, some false, some false, some false, some false, some false, some true, some true, some true, some true, some false, some false]).map (fun r => (r.1, r.2.2.2)) = some (LV.v (V1.one (At.bool !decide (v2 ≤ 100))), [(!decide (v1 ≤ 1000000), false), (!decide (v1 ≤ 1000000), false), (decide (v2 ≥ 0), true), (decide (v2 ≥ 0), true), (decide (v2 ≥ 0), true), (decide (v2 ≥ 0), true), (!decide (v1 ≤ 1000000), false), (!decide (v1 ≤ 1000000), false), (!decide (v1 ≤ 1000000), false), (!decide (v0 ≤ 1000000), false), (!decide (v0 ≤ 1000000), false), (decide (v1 ≥ 1), true), (decide (v1 ≥ 1), true), (decide (v1 ≥ 1), true), (decide (v1 ≥ 1), true), (!decide (v0 ≤ 1000000), false), (!decide (v0 ≤ 1000000), false), (!decide (v0 ≤ 1000000), false), (decide (v0 ≥ 1), true), (decide (v0 ≥ 1), true), (decide (v0 ≥ 1), true), (decide (v0 ≥ 1), true)]) := by kernel_rfl
theorem spoil2R4 (t v0 v1 v2 v3 v4 v5 v6 v7 : Int) : (runF Try.prog R7S Zl 2000 36 [.v (.one (.int .i64 2)), .v (.agg [.int .i64 t, .int .i64 v0, .int .i64 v1, .int .i64 v2, .int .i64 v3, .int .i64 v4, .int .i64 v5, .int .i64 v6, .int .i64 v7])] [] 0 [none, none, none, some true, some true, some true, some true, some false, some false, some false, some true, some true, some true, some true, some false, some false, some false, some false, some false, some false, some false, some false, some false, some false, some false]).map (fun r => (r.1, r.2.2.2)) = some (LV.v (V1.one (At.bool !false)), [(!decide (v1 ≤ 1000000), false), (!decide (v1 ≤ 1000000), false), (decide (v2 ≥ 0), false), (decide (v2 ≥ 0), false), (decide (v2 ≥ 0), false), (decide (v2 ≥ 0), false), (!decide (v1 ≤ 1000000), false), (!decide (v1 ≤ 1000000), false), (!decide (v1 ≤ 1000000), false), (!decide (v0 ≤ 1000000), false), (!decide (v0 ≤ 1000000), false), (decide (v1 ≥ 1), true), (decide (v1 ≥ 1), true), (decide (v1 ≥ 1), true), (decide (v1 ≥ 1), true), (!decide (v0 ≤ 1000000), false), (!decide (v0 ≤ 1000000), false), (!decide (v0 ≤ 1000000), false), (decide (v0 ≥ 1), true), (decide (v0 ≥ 1), true), (decide (v0 ≥ 1), true), (decide (v0 ≥ 1), true)]) := by kernel_rfl
theorem spoil2R5 (t v0 v1 v2 v3 v4 v5 v6 v7 : Int) : (runF Try.prog R7S Zl 2000 36 [.v (.one (.int .i64 2)), .v (.agg [.int .i64 t, .int .i64 v0, .int .i64 v1, .int .i64 v2, .int .i64 v3, .int .i64 v4, .int .i64 v5, .int .i64 v6, .int .i64 v7])] [] 0 [none, none, none, some true, some true, some true, some true, some false, some false, some false, some false, some false, some false, some false, some false, some false, none, none, none, none, none]).map (fun r => (r.1, r.2.2.2)) = some (LV.v (V1.one (At.bool true)), [(!decide (v0 ≤ 1000000), false), (!decide (v0 ≤ 1000000), false), (decide (v1 ≥ 1), false), (decide (v1 ≥ 1), false), (decide (v1 ≥ 1), false), (decide (v1 ≥ 1), false), (!decide (v0 ≤ 1000000), false), (!decide (v0 ≤ 1000000), false), (!decide (v0 ≤ 1000000), false), (decide (v0 ≥ 1), true), (decide (v0 ≥ 1), true), (decide (v0 ≥ 1), true), (decide (v0 ≥ 1), true)]) := by kernel_rfl
theorem spoil2R6 (t v0 v1 v2 v3 v4 v5 v6 v7 : Int) : (runF Try.prog R7S Zl 2000 36 [.v (.one (.int .i64 2)), .v (.agg [.int .i64 t, .int .i64 v0, .int .i64 v1, .int .i64 v2, .int .i64 v3, .int .i64 v4, .int .i64 v5, .int .i64 v6, .int .i64 v7])] [] 0 [none, none, none, some false, some false, some false, some false, none, none, none, none, none, none, none, none, none, none]).map (fun r => (r.1, r.2.2.2)) = some (LV.v (V1.one (At.bool true)), [(decide (v0 ≥ 1), false), (decide (v0 ≥ 1), false), (decide (v0 ≥ 1), false), (decide (v0 ≥ 1), false)]) := by kernel_rfl
def spoil2T (t v0 v1 v2 v3 v4 v5 v6 v7 : Int) : Option (LV × List (Bool × Bool)) := 
  bif (decide (v0 ≥ 1)) then 
    bif (!decide (v0 ≤ 1000000)) then some (LV.v (V1.one (At.bool true)), [])
    else 
      bif (decide (v1 ≥ 1)) then 
        bif (!decide (v1 ≤ 1000000)) then some (LV.v (V1.one (At.bool true)), [])
        else 
          bif (decide (v2 ≥ 0)) then some (LV.v (V1.one (At.bool !decide (v2 ≤ 100))), [])
          else some (LV.v (V1.one (At.bool !false)), [])
      else some (LV.v (V1.one (At.bool true)), [])
  else some (LV.v (V1.one (At.bool true)), [])
def spoil2F : List LV → Option (LV × List (Bool × Bool))
  | [.v (.one (.int .i64 2)), .v (.agg [.int .i64 t, .int .i64 v0, .int .i64 v1, .int .i64 v2, .int .i64 v3, .int .i64 v4, .int .i64 v5, .int .i64 v6, .int .i64 v7])] => spoil2T t v0 v1 v2 v3 v4 v5 v6 v7
  | _ => none
theorem sumspoil2 : SumOK Try.prog 36 (pureSum spoil2F) := by
  refine pureSum_run (z := Zl) soundR7 (own_of soundR7 Try.func36 (by kernel_rfl)) fun args v cs hF hc => ?_
  unfold spoil2F at hF
  split at hF
  · rename_i t v0 v1 v2 v3 v4 v5 v6 v7
    unfold spoil2T at hF
    rcases bool_cases (decide (v0 ≥ 1)) with h0 | h0
    · rw [cond_t h0] at hF
      rcases bool_cases (!decide (v0 ≤ 1000000)) with h1 | h1
      · rw [cond_t h1] at hF
        cases hF
        exact ⟨2000, [none, none, none, some true, some true, some true, some true, some true, some true, some true, some true, some true, none, none, none, none, none], _, spoil2R1 t v0 v1 v2 v3 v4 v5 v6 v7, ae_cons (h1) (ae_cons (h1) (ae_cons (h1) (ae_cons (h1) (ae_cons (h1) (ae_cons (h0) (ae_cons (h0) (ae_cons (h0) (ae_cons (h0) (ae_nil)))))))))⟩
      · rw [cond_f h1] at hF
        rcases bool_cases (decide (v1 ≥ 1)) with h2 | h2
        · rw [cond_t h2] at hF
          rcases bool_cases (!decide (v1 ≤ 1000000)) with h3 | h3
          · rw [cond_t h3] at hF
            cases hF
            exact ⟨2000, [none, none, none, some true, some true, some true, some true, some false, some false, some false, some true, some true, some true, some true, some false, some false, some true, some true, some true, some true, some true], _, spoil2R2 t v0 v1 v2 v3 v4 v5 v6 v7, ae_cons (h3) (ae_cons (h3) (ae_cons (h3) (ae_cons (h3) (ae_cons (h3) (ae_cons (h1) (ae_cons (h1) (ae_cons (h2) (ae_cons (h2) (ae_cons (h2) (ae_cons (h2) (ae_cons (h1) (ae_cons (h1) (ae_cons (h1) (ae_cons (h0) (ae_cons (h0) (ae_cons (h0) (ae_cons (h0) (ae_nil))))))))))))))))))⟩
          · rw [cond_f h3] at hF
            rcases bool_cases (decide (v2 ≥ 0)) with h4 | h4
            · rw [cond_t h4] at hF
              cases hF
              exact ⟨2000, [none, none, none, some true, some true, some true, some true, some false, some false, some false, some true, some true, some true, some true, some false, some false, some false, some false, some false, some true, some true, some true, some true, some false, some false], _, spoil2R3 t v0 v1 v2 v3 v4 v5 v6 v7, ae_cons (h3) (ae_cons (h3) (ae_cons (h4) (ae_cons (h4) (ae_cons (h4) (ae_cons (h4) (ae_cons (h3) (ae_cons (h3) (ae_cons (h3) (ae_cons (h1) (ae_cons (h1) (ae_cons (h2) (ae_cons (h2) (ae_cons (h2) (ae_cons (h2) (ae_cons (h1) (ae_cons (h1) (ae_cons (h1) (ae_cons (h0) (ae_cons (h0) (ae_cons (h0) (ae_cons (h0) (ae_nil))))))))))))))))))))))⟩
            · rw [cond_f h4] at hF
              cases hF
              exact ⟨2000, [none, none, none, some true, some true, some true, some true, some false, some false, some false, some true, some true, some true, some true, some false, some false, some false, some false, some false, some false, some false, some false, some false, some false, some false], _, spoil2R4 t v0 v1 v2 v3 v4 v5 v6 v7, ae_cons (h3) (ae_cons (h3) (ae_cons (h4) (ae_cons (h4) (ae_cons (h4) (ae_cons (h4) (ae_cons (h3) (ae_cons (h3) (ae_cons (h3) (ae_cons (h1) (ae_cons (h1) (ae_cons (h2) (ae_cons (h2) (ae_cons (h2) (ae_cons (h2) (ae_cons (h1) (ae_cons (h1) (ae_cons (h1) (ae_cons (h0) (ae_cons (h0) (ae_cons (h0) (ae_cons (h0) (ae_nil))))))))))))))))))))))⟩
        · rw [cond_f h2] at hF
          cases hF
          exact ⟨2000, [none, none, none, some true, some true, some true, some true, some false, some false, some false, some false, some false, some false, some false, some false, some false, none, none, none, none, none], _, spoil2R5 t v0 v1 v2 v3 v4 v5 v6 v7, ae_cons (h1) (ae_cons (h1) (ae_cons (h2) (ae_cons (h2) (ae_cons (h2) (ae_cons (h2) (ae_cons (h1) (ae_cons (h1) (ae_cons (h1) (ae_cons (h0) (ae_cons (h0) (ae_cons (h0) (ae_cons (h0) (ae_nil)))))))))))))⟩
    · rw [cond_f h0] at hF
      cases hF
      exact ⟨2000, [none, none, none, some false, some false, some false, some false, none, none, none, none, none, none, none, none, none, none], _, spoil2R6 t v0 v1 v2 v3 v4 v5 v6 v7, ae_cons (h0) (ae_cons (h0) (ae_cons (h0) (ae_cons (h0) (ae_nil))))⟩
  · cases hF


/-- Has it no form? -/
def spB (v0 v1 : Int) : Bool := !(decide (-100000000 ≤ v0) && (decide (v0 ≤ 100000000) && (decide (1 ≤ v1) && decide (v1 ≤ 1000000))))
def spR (v0 v1 v2 : Int) : Bool := !(decide (1 ≤ v0) && (decide (v0 ≤ 1000000) && (decide (1 ≤ v1) && (decide (v1 ≤ 1000000) && (decide (0 ≤ v2) && decide (v2 ≤ 100))))))
def varV (v1 : Int) : Int := clampV (mulDivV (wr IntKind.i64 (v1 * v1)) 17592186044416 1000000) 1 72057594037927936
def hbaroS : List LV → Bool → Option (LV × Bool × List (Bool × Bool))
  | [.v (.agg [.int .i64 t, .int .i64 v0, .int .i64 v1, .int .i64 v2, .int .i64 v3, .int .i64 v4, .int .i64 v5, .int .i64 v6, .int .i64 v7])], hb =>
    some (LV.tup [V1.agg [At.int IntKind.i64 (bif spB v0 v1 then 0 else mulDivV v0 1073741824 1000), At.int IntKind.i64 (bif spB v0 v1 then 0 else varV v1)], V1.one (At.int IntKind.i64 (bif spB v0 v1 then 1 else 0))], hb || (!spB v0 v1 && mulDivH v0 1073741824 1000), [])
  | _, _ => none
def hrangeS : List LV → Bool → Option (LV × Bool × List (Bool × Bool))
  | [.v (.agg [.int .i64 t, .int .i64 v0, .int .i64 v1, .int .i64 v2, .int .i64 v3, .int .i64 v4, .int .i64 v5, .int .i64 v6, .int .i64 v7])], hb =>
    some (LV.tup [V1.agg [At.int IntKind.i64 (bif spR v0 v1 v2 then 0 else mulDivV v0 1073741824 1000), At.int IntKind.i64 (bif spR v0 v1 v2 then 0 else varV v1), At.int IntKind.i64 (bif spR v0 v1 v2 then 0 else v2)], V1.one (At.int IntKind.i64 (bif spR v0 v1 v2 then 1 else 0))], hb || (!spR v0 v1 v2 && mulDivH v0 1073741824 1000), [])
  | _, _ => none
theorem sumHbaro : SumOK Try.prog 34 (accSum 27 hbaroS) := by
  refine sumhbaro.acc_re fun args hb v h' cs hF hc => ?_
  unfold hbaroS at hF
  split at hF
  · rename_i t v0 v1 v2 v3 v4 v5 v6 v7
    cases hF
    refine ⟨[], ?_, ae_nil⟩
    show hbaroT t v0 v1 v2 v3 v4 v5 v6 v7 hb = _
    unfold hbaroT spB
    by_cases h1 : v0 < -100000000
    · rw [cond_t (decide_eq_true h1), decide_eq_false (show ¬ -100000000 ≤ v0 by omega)]; simp
    · rw [cond_f (decide_eq_false h1), decide_eq_true (show -100000000 ≤ v0 by omega)]
      by_cases h2 : v0 > 100000000
      · rw [cond_t (decide_eq_true h2), decide_eq_false (show ¬ v0 ≤ 100000000 by omega)]; simp
      · rw [cond_f (decide_eq_false h2), decide_eq_true (show v0 ≤ 100000000 by omega)]
        by_cases h3 : v1 < 1
        · rw [cond_t (decide_eq_true h3), decide_eq_false (show ¬ 1 ≤ v1 by omega)]; simp
        · rw [cond_f (decide_eq_false h3), decide_eq_true (show 1 ≤ v1 by omega)]
          by_cases h4 : v1 > 1000000
          · rw [cond_t (decide_eq_true h4), decide_eq_false (show ¬ v1 ≤ 1000000 by omega)]; simp
          · rw [cond_f (decide_eq_false h4), decide_eq_true (show v1 ≤ 1000000 by omega)]; simp [varV]
  · cases hF
theorem sumHrange : SumOK Try.prog 35 (accSum 27 hrangeS) := by
  refine sumhrange.acc_re fun args hb v h' cs hF hc => ?_
  unfold hrangeS at hF
  split at hF
  · rename_i t v0 v1 v2 v3 v4 v5 v6 v7
    cases hF
    refine ⟨[], ?_, ae_nil⟩
    show hrangeT t v0 v1 v2 v3 v4 v5 v6 v7 hb = _
    unfold hrangeT spR
    by_cases h5 : v2 < 0
    · rw [cond_t (decide_eq_true h5), decide_eq_false (show ¬ 0 ≤ v2 by omega)]; simp
    rw [cond_f (decide_eq_false h5), decide_eq_true (show 0 ≤ v2 by omega)]
    by_cases h6 : v2 > 100
    · rw [cond_t (decide_eq_true h6), decide_eq_false (show ¬ v2 ≤ 100 by omega)]; simp
    rw [cond_f (decide_eq_false h6), decide_eq_true (show v2 ≤ 100 by omega)]
    by_cases h1 : v0 < 1
    · rw [cond_t (decide_eq_true h1), decide_eq_false (show ¬ 1 ≤ v0 by omega)]; simp
    · rw [cond_f (decide_eq_false h1), decide_eq_true (show 1 ≤ v0 by omega)]
      by_cases h2 : v0 > 1000000
      · rw [cond_t (decide_eq_true h2), decide_eq_false (show ¬ v0 ≤ 1000000 by omega)]; simp
      · rw [cond_f (decide_eq_false h2), decide_eq_true (show v0 ≤ 1000000 by omega)]
        by_cases h3 : v1 < 1
        · rw [cond_t (decide_eq_true h3), decide_eq_false (show ¬ 1 ≤ v1 by omega)]; simp
        · rw [cond_f (decide_eq_false h3), decide_eq_true (show 1 ≤ v1 by omega)]
          by_cases h4 : v1 > 1000000
          · rw [cond_t (decide_eq_true h4), decide_eq_false (show ¬ v1 ≤ 1000000 by omega)]; simp
          · rw [cond_f (decide_eq_false h4), decide_eq_true (show v1 ≤ 1000000 by omega)]; simp [varV]
  · cases hF
def spoil1S : List LV → Option (LV × List (Bool × Bool))
  | [.v (.one (.int .i64 1)), .v (.agg [.int .i64 t, .int .i64 v0, .int .i64 v1, .int .i64 v2, .int .i64 v3, .int .i64 v4, .int .i64 v5, .int .i64 v6, .int .i64 v7])] => some (.v (.one (.bool (spB v0 v1))), [])
  | _ => none
theorem sumSpoil1 : SumOK Try.prog 36 (pureSum spoil1S) := by
  refine sumspoil1.pure_re fun args v cs hF hc => ?_
  unfold spoil1S at hF
  split at hF
  · rename_i t v0 v1 v2 v3 v4 v5 v6 v7
    cases hF
    refine ⟨[], ?_, ae_nil⟩
    show spoil1T t v0 v1 v2 v3 v4 v5 v6 v7 = _
    unfold spoil1T spB
    by_cases h1 : v0 ≥ -100000000 <;> by_cases h2 : v0 ≤ 100000000 <;> by_cases h3 : v1 ≥ 1 <;> simp [h1, h2, h3] <;> omega
  · cases hF
def spoil2S : List LV → Option (LV × List (Bool × Bool))
  | [.v (.one (.int .i64 2)), .v (.agg [.int .i64 t, .int .i64 v0, .int .i64 v1, .int .i64 v2, .int .i64 v3, .int .i64 v4, .int .i64 v5, .int .i64 v6, .int .i64 v7])] => some (.v (.one (.bool (spR v0 v1 v2))), [])
  | _ => none
theorem sumSpoil2 : SumOK Try.prog 36 (pureSum spoil2S) := by
  refine sumspoil2.pure_re fun args v cs hF hc => ?_
  unfold spoil2S at hF
  split at hF
  · rename_i t v0 v1 v2 v3 v4 v5 v6 v7
    cases hF
    refine ⟨[], ?_, ae_nil⟩
    show spoil2T t v0 v1 v2 v3 v4 v5 v6 v7 = _
    unfold spoil2T spR
    by_cases h1 : v0 ≥ 1 <;> by_cases h2 : v0 ≤ 1000000 <;> by_cases h3 : v1 ≥ 1 <;> by_cases h4 : v1 ≤ 1000000 <;> by_cases h5 : v2 ≥ 0 <;> simp [h1, h2, h3, h4, h5] <;> omega
  · cases hF

noncomputable def S33 : FuncId → Option SumK := more (more (more (more (more R7S 38 (pureSum r16varF)) 34 (accSum 27 hbaroS)) 35 (accSum 27 hrangeS)) 36 (elseS (pureSum spoil1S) (pureSum spoil2S))) 33 (pureSum trueF)
theorem sound33 : Sound Try.prog S33 := ((((soundR7.more sumr16var).more sumHbaro).more sumHrange).more (elseS_ok sumSpoil1 sumSpoil2)).more sumAwakeH
end Go.Proofs.Ythfanchjkkeejaa

/- All summaries for HeightLevel. -/
namespace Go.Proofs.Ythfanchjkkeejaa
open Go.Lr
noncomputable def S48 : FuncId → Option SumK := more (more S47 35 (accSum 27 hrangeS)) 33 (pureSum trueF)
theorem sound48 : Sound Try.prog S48 := (sound47.more sumHrange).more sumAwakeH
end Go.Proofs.Ythfanchjkkeejaa

/- The law HeightLevel: its runs, and why they answer true. -/
namespace Go.Proofs.Ythfanchjkkeejaa
open Go.Lr Go.RowKit
set_option linter.unusedVariables false
set_option linter.unusedSimpArgs false

def hK (f0 f1 f2 f3 : Int) : Int := rm8 (satV f0) (satV f1) (satV f2) (satV f3)
def hlF (mm f0 f1 f2 f3 : Int) : Bool := rmF (false || !spR mm 50 100 && mulDivH mm 1073741824 1000 || satH f0 || satH f1 || satH f2 || satH f3) (satV f0) (satV f1) (satV f2) (satV f3) || divPH (wr IntKind.i64 (0 - mulDivV mm 1073741824 1000)) (hK f0 f1 f2 f3) 30 || subH (bif spR mm 50 100 then 0 else mulDivV mm 1073741824 1000) (wr IntKind.i64 (0 - (divPV (wr IntKind.i64 (0 - mulDivV mm 1073741824 1000)) (hK f0 f1 f2 f3) 30))) || divPH 1073741824 (hK f0 f1 f2 f3) 30 || divPH (divPV (wr IntKind.i64 (0 - mulDivV mm 1073741824 1000)) (hK f0 f1 f2 f3) 30) (hK f0 f1 f2 f3) 30 || faddH [f0, f0] || mulH (divPV (divPV (wr IntKind.i64 (0 - mulDivV mm 1073741824 1000)) (hK f0 f1 f2 f3) 30) (hK f0 f1 f2 f3) 30) (faddV [f0, f0]) 30 || faddH [f1, f1] || mulH (divPV (divPV (wr IntKind.i64 (0 - mulDivV mm 1073741824 1000)) (hK f0 f1 f2 f3) 30) (hK f0 f1 f2 f3) 30) (wr IntKind.i64 (0 - faddV [f1, f1])) 30 || faddH [f2, f2] || mulH (divPV (divPV (wr IntKind.i64 (0 - mulDivV mm 1073741824 1000)) (hK f0 f1 f2 f3) 30) (hK f0 f1 f2 f3) 30) (wr IntKind.i64 (0 - faddV [f2, f2])) 30 || faddH [f3, f3] || mulH (divPV (divPV (wr IntKind.i64 (0 - mulDivV mm 1073741824 1000)) (hK f0 f1 f2 f3) 30) (hK f0 f1 f2 f3) 30) (faddV [f3, f3]) 30
def hlY (mm f0 f1 f2 f3 : Int) : Int := subV (bif spR mm 50 100 then 0 else mulDivV mm 1073741824 1000) (wr IntKind.i64 (0 - (divPV (wr IntKind.i64 (0 - mulDivV mm 1073741824 1000)) (hK f0 f1 f2 f3) 30)))
def hlD (f0 f1 f2 f3 : Int) : Int := wr IntKind.i64 (0 - divPV 1073741824 (hK f0 f1 f2 f3) 30)
theorem hlR (hd mm : Int) : (runF Try.prog S48 Zl 4000 10 [I hd, I mm] [] 0 [none, some false, some false, some false, some false, some false, some false, some false, some false, some false, none, none, none, none, none, none, none, none, none, none, none, none, none, none, none, none, none, none, none, none, none, some true, some true, some true, none, none, none, none, some true, some true, some true, some true, some true, some true, some true, some true, some true, some true, some true, some true, some true, some true, some true, some true, some true, some true, some true, none, none, none, none, none, none, none]).map (fun r => (r.1, r.2.2.2)) = some (.v (.one (.bool (!hlF mm (fy0 hd) (fy1 hd) (fy2 hd) (fy3 hd)))), [(decide (hlD (fy0 hd) (fy1 hd) (fy2 hd) (fy3 hd) > -1073741888), true), (decide (hlD (fy0 hd) (fy1 hd) (fy2 hd) (fy3 hd) > -1073741888), true), (decide (hlD (fy0 hd) (fy1 hd) (fy2 hd) (fy3 hd) > -1073741888), true), (decide (hlD (fy0 hd) (fy1 hd) (fy2 hd) (fy3 hd) > -1073741888), true), (decide (hlD (fy0 hd) (fy1 hd) (fy2 hd) (fy3 hd) > -1073741888), true), (decide (hlD (fy0 hd) (fy1 hd) (fy2 hd) (fy3 hd) < -1073741760), true), (decide (hlD (fy0 hd) (fy1 hd) (fy2 hd) (fy3 hd) < -1073741760), true), (decide (hlD (fy0 hd) (fy1 hd) (fy2 hd) (fy3 hd) < -1073741760), true), (decide (hlD (fy0 hd) (fy1 hd) (fy2 hd) (fy3 hd) < -1073741760), true), (decide (hlD (fy0 hd) (fy1 hd) (fy2 hd) (fy3 hd) < -1073741760), true), (decide (hlY mm (fy0 hd) (fy1 hd) (fy2 hd) (fy3 hd) > -4096), true), (decide (hlY mm (fy0 hd) (fy1 hd) (fy2 hd) (fy3 hd) > -4096), true), (decide (hlY mm (fy0 hd) (fy1 hd) (fy2 hd) (fy3 hd) > -4096), true), (decide (hlY mm (fy0 hd) (fy1 hd) (fy2 hd) (fy3 hd) > -4096), true), (decide (hlY mm (fy0 hd) (fy1 hd) (fy2 hd) (fy3 hd) > -4096), true), (decide (hlY mm (fy0 hd) (fy1 hd) (fy2 hd) (fy3 hd) < 4096), true), (decide (hlY mm (fy0 hd) (fy1 hd) (fy2 hd) (fy3 hd) < 4096), true), (decide (hlY mm (fy0 hd) (fy1 hd) (fy2 hd) (fy3 hd) < 4096), true), (decide (hlY mm (fy0 hd) (fy1 hd) (fy2 hd) (fy3 hd) < 4096), true), ((bif spR mm 50 100 then (1 : Int) else 0) == 0, true), ((bif spR mm 50 100 then (1 : Int) else 0) == 0, true), ((bif spR mm 50 100 then (1 : Int) else 0) == 0, true), (decide ((bif spR mm 50 100 then (0 : Int) else 100) < 50), false), (decide (hK (fy0 hd) (fy1 hd) (fy2 hd) (fy3 hd) < 751619277), false), (decide (hK (fy0 hd) (fy1 hd) (fy2 hd) (fy3 hd) < 751619277), false), (decide (hK (fy0 hd) (fy1 hd) (fy2 hd) (fy3 hd) < 751619277), false), (decide (hK (fy0 hd) (fy1 hd) (fy2 hd) (fy3 hd) < 751619277), false), (decide (mm > 100000), false), (decide (mm < 500), false), (decide (mm < 500), false), (decide (mm < 500), false)]) := by kernel_rfl
theorem hlL (hd mm : Int) : (runF Try.prog S48 Zl 4000 10 [I hd, I mm] [] 0 [none, some true, some true, some true]).map (fun r => (r.1, r.2.2.2)) = some (.v (.one (.bool true)), [(decide (mm < 500), true), (decide (mm < 500), true), (decide (mm < 500), true)]) := by kernel_rfl
theorem hlG (hd mm : Int) : (runF Try.prog S48 Zl 4000 10 [I hd, I mm] [] 0 [none, some false, some false, some false, some true]).map (fun r => (r.1, r.2.2.2)) = some (.v (.one (.bool true)), [(decide (mm > 100000), true), (decide (mm < 500), false), (decide (mm < 500), false), (decide (mm < 500), false)]) := by kernel_rfl
-- @@run
theorem md_ok {mm : Int} (h0 : 500 ≤ mm) (h1 : mm ≤ 100000) : (-1000 ≤ 2 * (mulDivV mm 1073741824 1000 * 1000 - mm * 1073741824) ∧ 2 * (mulDivV mm 1073741824 1000 * 1000 - mm * 1073741824) ≤ 1000) ∧ mulDivH mm 1073741824 1000 = false := by
  have q := quo_bd (a := mm * 1073741824) (b := 1000) (by omega) (by omega)
  have d := div_pos (a := mm * 1073741824) (b := 1000) (by omega) (by omega)
  unfold mulDivV mulDivH byV byH
  rw [sat_in (a := mm) (by omega) (by omega), sat_in (a := 1073741824) (by omega) (by omega), sat_in (a := 1000) (by omega) (by omega), satH_in (a := mm) (by omega) (by omega), satH_in (a := 1073741824) (by omega) (by omega), satH_in (a := 1000) (by omega) (by omega), if_neg (by omega), d, sat_in (by omega) (by omega), satH_in (by omega) (by omega)]
  exact ⟨q, rfl⟩
theorem spR_f {mm : Int} (h0 : 500 ≤ mm) (h1 : mm ≤ 100000) : spR mm 50 100 = false := by
  unfold spR
  simp
  omega
theorem hl_all {mm f0 f3 : Int} (h0 : 500 ≤ mm) (h1 : mm ≤ 100000) (h : UnitQ f0 0 0 f3) :
    hlF mm f0 0 0 f3 = false ∧ (-4096 < hlY mm f0 0 0 f3 ∧ hlY mm f0 0 0 f3 < 4096) ∧ (-1073741888 < hlD f0 0 0 f3 ∧ hlD f0 0 0 f3 < -1073741760) ∧ (1073741820 ≤ hK f0 0 0 f3 ∧ hK f0 0 0 f3 ≤ 1073741828) := by
  obtain ⟨⟨m0, m1⟩, mh⟩ := md_ok h0 h1
  have sp := spR_f h0 h1
  have k := lev8 h
  have z : one 0 := by unfold one; omega
  have i0 := (one.sm h.ha)
  have i3 := (one.sm h.hd)
  have iz := (one.sm z)
  obtain ⟨-, -, -, -, -, -, -, -, -, ff⟩ := rm_eq h.ha z z h.hd
  unfold hlF hlY hlD hK
  rw [sp, i0.sat.1, i3.sat.1, iz.sat.1, ff, i0.sat.2, i3.sat.2, iz.sat.2, mh]
  simp only [cond_false]
  generalize rm8 f0 0 0 f3 = K at *
  generalize mulDivV mm 1073741824 1000 = H at *
  rw [wneg_mid (a := H) (by omega)]
  obtain ⟨⟨v0, v1⟩, v2, vh⟩ := dgen (v := -H) (u := K) (by omega) (by omega) (by omega) (by omega)
  obtain ⟨⟨t0, t1⟩, t2, th⟩ := dgen (v := 1073741824) (u := K) (by omega) (by omega) (by omega) (by omega)
  have vb : -137438953472 ≤ divPV (-H) K 30 ∧ divPV (-H) K 30 ≤ 137438953472 := by
    generalize divPV (-H) K 30 = v at *
    constructor
    · rcases Int.lt_or_le v (-137438953472) with g | g
      · exfalso
        have : v * K ≤ -137438953473 * K := Int.mul_le_mul_of_nonneg_right (by omega) (by omega)
        omega
      · exact g
    · rcases Int.lt_or_le 137438953472 v with g | g
      · exfalso
        have : 137438953473 * K ≤ v * K := Int.mul_le_mul_of_nonneg_right (by omega) (by omega)
        omega
      · exact g
  obtain ⟨-, w2, wh⟩ := dgen (v := divPV (-H) K 30) (u := K) (by omega) (by omega) (by omega) (by omega)
  rw [vh, th, wh, wneg_mid (a := divPV (-H) K 30) (by omega), wneg_mid (a := divPV 1073741824 K 30) (by omega)]
  obtain ⟨s1, s2⟩ := sub_mid (a := H) (b := -divPV (-H) K 30) (by omega) (by omega)
  rw [s1, s2]
  generalize divPV (divPV (-H) K 30) K 30 = w at *
  have ha := h.ha
  have hd := h.hd
  obtain ⟨x0, y0⟩ := add_mid (a := f0) (b := f0) (by omega) (by omega)
  obtain ⟨x3, y3⟩ := add_mid (a := f3) (b := f3) (by omega) (by omega)
  obtain ⟨x1, y1⟩ := add_mid (a := 0) (b := 0) (by omega) (by omega)
  rw [x0, y0, x3, y3, x1, y1, wneg_mid (a := 0 + 0) (by omega), (mul_mid (a := w) (b := f0 + f0) (by omega) (by omega)).2, (mul_mid (a := w) (b := f3 + f3) (by omega) (by omega)).2, (mul_mid (a := w) (b := -(0 + 0)) (by omega) (by omega)).2]
  refine ⟨by simp, ?_, ?_, k⟩
  · generalize divPV (-H) K 30 = v at *
    have e : (H + v) * K = H * (K - 1073741824) + (v * K + H * 1073741824) := by grind
    have p := prod_lt (a := H) (b := K - 1073741824) (k := 107374183400) (l := 4) (by unfold absV; split <;> omega) (by unfold absV; split <;> omega)
    have e2 : H - -v = H + v := by omega
    rw [e2]
    generalize H * (K - 1073741824) = q at *
    generalize H + v = y at *
    constructor
    · rcases Int.lt_or_le (-4096) y with g | g
      · exact g
      · exfalso
        have : y * K ≤ -4096 * K := Int.mul_le_mul_of_nonneg_right (by omega) (by omega)
        omega
    · rcases Int.lt_or_le y 4096 with g | g
      · exact g
      · exfalso
        have : 4096 * K ≤ y * K := Int.mul_le_mul_of_nonneg_right (by omega) (by omega)
        omega
  · generalize divPV 1073741824 K 30 = t at *
    constructor
    · rcases Int.lt_or_le t 1073741888 with g | g
      · omega
      · exfalso
        have : 1073741888 * K ≤ t * K := Int.mul_le_mul_of_nonneg_right (by omega) (by omega)
        omega
    · rcases Int.lt_or_le 1073741760 t with g | g
      · omega
      · exfalso
        have : t * K ≤ 1073741760 * K := Int.mul_le_mul_of_nonneg_right (by omega) (by omega)
        omega
theorem lawHeightLevel (hd mm : Int) (w : World) :
    Calls Try.prog 10 ([I hd, I mm].map (LV.den E0)).toArray w fun e w' => e = .returned (.bool true) ∧ Below w.heap.size w w' := by
  rcases bool_cases (decide (mm < 500)) with c | c
  · exact law_true sound48 (hlL hd mm) rfl (by rw [c]; simp) rfl w
  rcases bool_cases (decide (mm > 100000)) with g | g
  · exact law_true sound48 (hlG hd mm) rfl (by rw [c, g]; simp) rfl w
  have h0 : 500 ≤ mm := by simpa using c
  have h1 : mm ≤ 100000 := by simpa using g
  obtain ⟨hu, z1, z2⟩ := fy_ok hd
  have hr := hlR hd mm
  rw [z1, z2] at hr
  obtain ⟨a, b, d, e⟩ := hl_all h0 h1 hu
  have b1 : decide (hlY mm (fy0 hd) 0 0 (fy3 hd) < 4096) = true := by simpa using b.2
  have b2 : decide (hlY mm (fy0 hd) 0 0 (fy3 hd) > -4096) = true := by simpa using b.1
  have d1 : decide (hlD (fy0 hd) 0 0 (fy3 hd) < -1073741760) = true := by simpa using d.2
  have d2 : decide (hlD (fy0 hd) 0 0 (fy3 hd) > -1073741888) = true := by simpa using d.1
  have e1 : decide (hK (fy0 hd) 0 0 (fy3 hd) < 751619277) = false := by simp; omega
  refine law_true sound48 hr (by rw [a]; rfl) ?_ rfl w
  rw [c, g, b1, b2, d1, d2, e1, spR_f h0 h1]
  simp
-- @@end
end Go.Proofs.Ythfanchjkkeejaa
