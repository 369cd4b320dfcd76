/- The local evaluator: from a run to what a call does; summaries. -/
import Derived.Test.YtjbikokffafdbaaLrS14
import Derived.Laws.Externs
import Derived.KernelRfl
namespace Go.Lr
open Go.RowKit

def E0 : Env := fun _ => (0, 0)
def noP : Nat → Bool := fun _ => false

theorem den_noP {E : Env} {v : LV} (h : v.ok noP = true) : v.den E = v.den E0 := LV.den_congr (p := noP) (fun i hi => by cases hi) h
theorem denL_noP {E : Env} {l : List LV} (h : ∀ v ∈ l, v.ok noP = true) : l.map (LV.den E) = l.map (LV.den E0) := List.map_congr_left fun v hv => den_noP (h v hv)
theorem denA_noP {E : Env} {l : List At} (h : okL noP l = true) : l.map (At.den E) = l.map (At.den E0) := denL_congr (p := noP) (fun i hi => by cases hi) h
theorem noP_below {n : Nat} : ∀ i, noP i = true → below n i = true := fun i hi => by cases hi

/-- What the evaluator leans on, of a program and its summaries. -/
structure Sound (P : Program) (S : FuncId → Option Sum) : Prop where
  sums : AllOK P S
  mix : P.follows .mixedOrders = true
  ng : ∀ (f : FuncId) (fn : Func), P.funcs[f]? = some fn → fn.name ≠ "runtime.NumGoroutine"

def plainVs (l : List LV) : Bool :=
  match l with
  | [] => true
  | v :: l => match v.ok noP with
    | true => plainVs l
    | false => false

theorem plainVs_iff : ∀ {l : List LV}, plainVs l = true ↔ ∀ v ∈ l, v.ok noP = true
  | [] => by simp [plainVs]
  | v :: l => by
    simp only [plainVs, List.mem_cons, forall_eq_or_imp]
    cases h : v.ok noP <;> simp [plainVs_iff (l := l)]

section
variable {P : Program} {S : FuncId → Option Sum} {z : Md}

theorem runF_body {n : Nat} {f : FuncId} {args : List LV} {m : Mem} {nb : Nat} {dec : List (Option Bool)} {v : LV} {m' : Mem} {nb' : Nat} {cs : List (Bool × Bool)} (h : runF P S z n f args m nb dec = some (v, m', nb', cs)) :
    ∃ s', exec P S z n (.body f args) ⟨.nil, 0, m, nb, dec, []⟩ = some (.val v, s') ∧ s'.mem = m' ∧ s'.nb = nb' ∧ s'.cs = cs := by
  unfold runF at h
  split at h
  · rename_i u s hs
    cases h
    exact ⟨s, hs, rfl, rfl, rfl⟩
  · cases h

/-- A call that is handed plain values, and hands back a plain one. -/
theorem calls_of_run (hs : Sound P S) {n : Nat} {f : FuncId} {args : List LV} {dec : List (Option Bool)} {v : LV} {m' : Mem} {nb' : Nat} {cs : List (Bool × Bool)} (h : runF P S z n f args [] 0 dec = some (v, m', nb', cs))
    (hc : ∀ c ∈ cs, c.1 = c.2) (ha : plainVs args = true) (hv : v.ok noP = true) (w : World) :
    Calls P f (args.map (LV.den E0)).toArray w fun e w' => e = .returned (v.den E0) ∧ Below w.heap.size w w' := by
  obtain ⟨s', h1, h2, h3, h4⟩ := runF_body h
  have ha' := plainVs_iff.1 ha
  obtain ⟨v', b1, b2, b3, b4, b5, b6, b7, b8⟩ := (exec_sound (binOK P) hs.sums hs.mix hs.ng n).2.2.2 f args _ _ s' h1 (fun i b hb => by simp [getM] at hb) trivial (fun u hu => LV.ok_mono noP_below (ha' u hu))
  cases b1
  have := b8 (by rw [Good, h4]; exact hc) E0 w ⟨⟨fun i b hb => by simp [getM] at hb, fun i j hi => by simp [getM] at hi⟩, fun i b hb => by simp [getM] at hb, trivial⟩
  refine this.mono fun e w' he => ?_
  obtain ⟨E', rfl, _, hx⟩ := he
  refine ⟨by rw [den_noP hv], hx.os, hx.tape, hx.output, hx.size, fun k hk => hx.frame k hk fun i hi => by simp [getM] at hi⟩

/-- The function is the program's own text. -/
def Own (P : Program) (f : FuncId) : Prop := ∃ fn, P.funcs[f]? = some fn ∧ fn.name ≠ "runtime.NumGoroutine" ∧ fn.body.isSome

theorem own_of (hs : Sound P S) {f : FuncId} {fn : Func} (h : P.funcs[f]? = some fn) (hb : fn.body.isSome = true) : Own P f := ⟨fn, h, hs.ng f fn h, hb⟩

theorem post_plain {w w' : World} {E : Env} {g : Nat → Option Blk} {nb : Nat} {v : LV} {cs : List (Bool × Bool)} (hr : Rel E g w) (hb : Below w.heap.size w w') : Post w E g nb ⟨v, [], [], [], cs⟩ E w' := by
  refine ⟨fun _ _ => rfl, ⟨fun i b h => ?_, hr.inj⟩, hb.os, hb.tape, hb.output, hb.size, fun k hk _ => hb.block k hk, fun i h1 h2 => by simp at h2; omega⟩
  obtain ⟨r, h1, h2, h3⟩ := hr.blk i b h
  exact ⟨r, by rw [hb.block _ (Array.getElem?_eq_some_iff.1 h1).1]; exact h1, h2, h3⟩

-- summaries of functions of plain values
/-- F: the value, and what is asked. -/
def pureSum (F : List LV → Option (LV × List (Bool × Bool))) : Sum := fun args =>
  match plainVs args with
  | true => match F args with
    | some (v, cs) => match v.ok noP with
      | true => some ⟨[], [], fun _ _ _ => some ⟨v, [], [], cs⟩⟩
      | false => none
    | none => none
  | false => none

theorem pureSum_ok {f : FuncId} {F : List LV → Option (LV × List (Bool × Bool))}
    (h : ∀ args v cs, F args = some (v, cs) → (∀ c ∈ cs, c.1 = c.2) → ∀ w, CallOK P f (args.map (LV.den E0)).toArray w fun u w' => u = v.den E0 ∧ Below w.heap.size w w') : SumOK P f (pureSum F) := by
  intro args t g nb p rdB wrB ans ws E w hs hr hw _ hgo hz hc hrel hg hargs hn
  unfold pureSum at hs
  split at hs
  · rename_i hp
    split at hs
    · rename_i v cs hF
      split at hs
      · rename_i hv
        cases hs
        simp only [Option.some.injEq] at hgo
        subst hgo
        simp only [zipW] at hz
        cases hz
        rw [denL_noP (plainVs_iff.1 hp)]
        refine (h args v cs hF hc w).imp (fun ⟨fn, h1, h2, h3, h4⟩ => ⟨fn, h1, h2, h3, h4.mono ?_⟩) (fun ⟨u, w', h1, h2⟩ => ⟨u, w', h1, E, ?_, post_plain hrel h2.2⟩)
        · rintro e w' ⟨u, rfl, rfl, hb⟩
          exact ⟨_, rfl, E, (den_noP hv).symm, post_plain hrel hb⟩
        · rw [h2.1]; exact (den_noP hv).symm
      · cases hs
    · cases hs
  · cases hs

theorem callOK_of {f : FuncId} {args : Array Value} {w : World} {v : Value} {B : World → World → Prop} (ho : Own P f) (h : Calls P f args w fun e w' => e = .returned v ∧ B w w') : CallOK P f args w fun u w' => u = v ∧ B w w' := by
  obtain ⟨fn, h1, h2, h3⟩ := ho
  exact .inl ⟨fn, h1, h2, h3, h.mono fun e w' he => ⟨v, he.1, rfl, he.2⟩⟩

-- a pointer to a struct of one flag, and plain values
/-- One block holds other cells; nothing else that was there has turned. -/
structure Turned (b : Nat) (o : Obj) (w w' : World) : Prop where
  os : w'.os = w.os
  tape : w'.tape = w.tape
  output : w'.output = w.output
  size : w.heap.size ≤ w'.heap.size
  this : w'.heap[b]? = some o
  block : ∀ k, k < w.heap.size → k ≠ b → w'.heap[k]? = w.heap[k]?

def flag (ty : TypeId) (h : Bool) : Blk := ⟨ty, (0, 0), 0, [.bool h]⟩
def flagO (ty : TypeId) (h : Bool) : Obj := .cells #[.bool h] ty (0, 0)

/-- A method that turns a flag, off a run. -/
theorem acc_of_run (hs : Sound P S) {n : Nat} {f : FuncId} {args : List LV} {dec : List (Option Bool)} {v : LV} {m' : Mem} {nb' : Nat} {cs : List (Bool × Bool)} {ty : TypeId} {h h' : Bool}
    (hrun : runF P S z n f (.v (.one (.ptr 0 0)) :: args) [(0, flag ty h)] 1 dec = some (v, m', nb', cs)) (hm : getM m' 0 = some (flag ty h')) (hc : ∀ c ∈ cs, c.1 = c.2) (ha : plainVs args = true) (hv : v.ok noP = true)
    (w : World) (b : Nat) (hb : w.heap[b]? = some (flagO ty h)) :
    Calls P f (Value.pointer (some ⟨b, 0, none⟩) :: args.map (LV.den E0)).toArray w fun e w' => e = .returned (v.den E0) ∧ Turned b (flagO ty h') w w' := by
  obtain ⟨s', h1, h2, h3, h4⟩ := runF_body hrun
  have ha' := plainVs_iff.1 ha
  have hget : ∀ i c, getM [(0, flag ty h)] i = some c → i = 0 ∧ c = flag ty h := by
    intro i c hc
    rw [getM_cons] at hc
    by_cases hi : i = 0
    · rw [if_pos hi] at hc; cases hc; exact ⟨hi, rfl⟩
    · rw [if_neg hi] at hc; simp [getM] at hc
  obtain ⟨v', b1, b2, b3, b4, b5, b6, b7, b8⟩ := (exec_sound (binOK P) hs.sums hs.mix hs.ng n).2.2.2 f (.v (.one (.ptr 0 0)) :: args) _ _ s' h1 (fun i c hc => by
    obtain ⟨rfl, rfl⟩ := hget i c hc
    exact ⟨Nat.zero_lt_one, rfl⟩) ⟨rfl, trivial⟩ (fun u hu => by
    rcases List.mem_cons.1 hu with rfl | hu
    · rfl
    · exact LV.ok_mono noP_below (ha' u hu))
  cases b1
  have hmr : MRel (fun _ => (b, 0)) ⟨.nil, 0, [(0, flag ty h)], 1, dec, []⟩ w := by
    refine ⟨⟨fun i c hc => ?_, fun i j hi hj _ => ?_⟩, fun i c hc => ?_, ⟨rfl, trivial⟩⟩
    · obtain ⟨rfl, rfl⟩ := hget i c hc
      exact ⟨[], hb, fun _ => rfl, fun hne => absurd rfl hne⟩
    · obtain ⟨c, hc⟩ := Option.isSome_iff_exists.1 hi
      obtain ⟨d, hd⟩ := Option.isSome_iff_exists.1 hj
      rw [(hget i c hc).1, (hget j d hd).1]
    · obtain ⟨rfl, rfl⟩ := hget i c hc
      exact ⟨Nat.zero_lt_one, rfl⟩
  have := b8 (by rw [Good, h4]; exact hc) (fun _ => (b, 0)) w hmr
  have hargs : ((LV.v (V1.one (At.ptr 0 0))) :: args).map (LV.den fun _ => (b, 0)) = Value.pointer (some ⟨b, 0, none⟩) :: args.map (LV.den E0) := by
    rw [List.map_cons, denL_noP ha']
    rfl
  rw [hargs] at this
  refine this.mono fun e w' he => ?_
  obtain ⟨E', rfl, hmr', hx⟩ := he
  refine ⟨by rw [den_noP hv], hx.os, hx.tape, hx.output, hx.size, ?_, fun k hk hne => hx.frame k hk fun i hi he => ?_⟩
  · obtain ⟨r, g1, g2, _⟩ := hmr'.rel.blk 0 (flag ty h') (by rw [h2]; exact hm)
    rw [hx.agree 0 (by show 0 < 1; omega)] at g1
    rw [g1, g2 rfl]
    rfl
  · exact hne he.symm

theorem post_turned {w w' : World} {E : Env} {g : Nat → Option Blk} {nb c : Nat} {v : LV} {ty : TypeId} {h h' : Bool} (hr : Rel E g w) (hc : g c = some (flag ty h)) (ht : Turned (E c).1 (flagO ty h') w w') :
    Post w E g nb ⟨v, [(c, some (flag ty h'))], [], [], []⟩ E w' := by
  refine ⟨fun _ _ => rfl, ⟨fun i b hb => ?_, fun i j hi hj he => ?_⟩, ht.os, ht.tape, ht.output, ht.size, fun k hk hne => ht.block k hk (fun e => hne c (by simp [hc]) e.symm), fun i h1 h2 => by simp at h2; omega⟩
  · simp only [nwG, wrG] at hb
    by_cases hi : i = c
    · subst hi
      rw [if_pos rfl] at hb
      cases hb
      exact ⟨[], ht.this, fun _ => rfl, fun hne => absurd rfl hne⟩
    · rw [if_neg hi] at hb
      obtain ⟨r, h1, h2, h3⟩ := hr.blk i b hb
      refine ⟨r, ?_, h2, h3⟩
      rw [ht.block _ (Array.getElem?_eq_some_iff.1 h1).1 (fun e => hi (hr.inj i c (by simp [hb]) (by simp [hc]) e))]
      exact h1
  · simp only [nwG, wrG] at hi hj
    refine hr.inj i j ?_ ?_ he
    · by_cases h1 : i = c
      · rw [h1]; simp [hc]
      · simpa [if_neg h1] using hi
    · by_cases h1 : j = c
      · rw [h1]; simp [hc]
      · simpa [if_neg h1] using hj

/-- F: of the values and the flag: the value, the flag, what is asked. -/
def accSum (ty : TypeId) (F : List LV → Bool → Option (LV × Bool × List (Bool × Bool))) : Sum := fun args =>
  match args with
  | .v (.one (.ptr c 0)) :: rest => match plainVs rest with
    | true => some ⟨[], [c], fun _ wB _ => match wB with
      | [⟨t, (0, 0), 0, [.bool h]⟩] => match Nat.beq t ty with
        | true => match F rest h with
          | some (v, h', cs) => match v.ok noP with
            | true => some ⟨v, [flag ty h'], [], cs⟩
            | false => none
          | none => none
        | false => none
      | _ => none⟩
    | false => none
  | _ => none

theorem accSum_ok {f : FuncId} {ty : TypeId} {F : List LV → Bool → Option (LV × Bool × List (Bool × Bool))}
    (h : ∀ args hb v h' cs, F args hb = some (v, h', cs) → (∀ c ∈ cs, c.1 = c.2) → plainVs args = true → ∀ (w : World) (b : Nat), w.heap[b]? = some (flagO ty hb) →
      CallOK P f (Value.pointer (some ⟨b, 0, none⟩) :: args.map (LV.den E0)).toArray w fun u w' => u = v.den E0 ∧ Turned b (flagO ty h') w w') : SumOK P f (accSum ty F) := by
  intro args t g nb p rdB wrB ans ws E w hs hr hw _ hgo hz hc hrel hg hargs hn
  unfold accSum at hs
  split at hs
  · rename_i c rest
    split at hs
    · rename_i hp
      cases hs
      simp only at hgo hw
      split at hgo
      · rename_i t' hb
        split at hgo
        · rename_i hty
          rw [nbeq] at hty
          have hty' : t' = ty := by simpa using hty
          subst hty'
          split at hgo
          · rename_i v h' cs hF
            split at hgo
            · rename_i hv
              cases hgo
              simp only [liveAll] at hw
              split at hw
              · rename_i k r hk hr'
                cases hr'
                cases hw
                simp only [zipW] at hz
                cases hz
                obtain ⟨r', g1, g2, _⟩ := hrel.blk c _ hk
                have hcell : w.heap[(E c).1]? = some (flagO t' hb) := by rw [g1, g2 rfl]; rfl
                have hargs' : ((LV.v (V1.one (At.ptr c 0))) :: rest).map (LV.den E) = Value.pointer (some ⟨(E c).1, 0, none⟩) :: rest.map (LV.den E0) := by
                  rw [List.map_cons, denL_noP (plainVs_iff.1 hp)]
                  rfl
                rw [hargs']
                refine (h rest hb v h' cs hF hc hp w (E c).1 hcell).imp (fun ⟨fn, h1, h2, h3, h4⟩ => ⟨fn, h1, h2, h3, h4.mono ?_⟩) (fun ⟨u, w', h1, h2⟩ => ⟨u, w', h1, E, ?_, post_turned hrel hk h2.2⟩)
                · rintro e w' ⟨u, rfl, rfl, ht⟩
                  exact ⟨_, rfl, E, (den_noP hv).symm, post_turned hrel hk ht⟩
                · rw [h2.1]; exact (den_noP hv).symm
              · cases hw
            · cases hgo
          · cases hgo
        · cases hgo
      · cases hgo
    · cases hs
  · cases hs

-- math/bits.Add64, Sub64: the model answers
def addF : List LV → Option (LV × List (Bool × Bool))
  | [.v (.one (.int .u64 x)), .v (.one (.int .u64 y)), .v (.one (.int .u64 c))] =>
    some (.tup [.one (.int .u64 (u64 (x + y + c))), .one (.int .u64 ((x + y + c) / 18446744073709551616))], [(decide (0 ≤ x) && (decide (0 ≤ y) && (decide (0 ≤ c) && decide (c ≤ 1))), true)])
  | _ => none

def subF : List LV → Option (LV × List (Bool × Bool))
  | [.v (.one (.int .u64 x)), .v (.one (.int .u64 y)), .v (.one (.int .u64 c))] =>
    some (.tup [.one (.int .u64 (u64 (x - y - c))), .one (.int .u64 (if x < y + c then 1 else 0))], [(decide (0 ≤ x) && (decide (0 ≤ y) && (decide (y < 18446744073709551616) && (decide (0 ≤ c) && decide (c ≤ 1)))), true)])
  | _ => none

theorem add64_ok {f : FuncId} {fn : Func} (hf : P.funcs[f]? = some fn) (hname : (fn.name == "runtime.NumGoroutine") = false) (hb : fn.body.isNone = true) (hn : Extern.findNext fn = none) (he : Extern.find fn = some add64Entry) : SumOK P f (pureSum addF) := by
  refine pureSum_ok fun args v cs hF hc w => .inr ?_
  unfold addF at hF
  split at hF
  · rename_i x y c
    cases hF
    have hx := hc _ (List.mem_singleton.2 rfl)
    simp only [Bool.and_eq_true, decide_eq_true_eq] at hx
    obtain ⟨h1, h2, h3, h4⟩ := hx
    refine ⟨_, w, ?_, rfl, .refl _ _⟩
    have : ([LV.v (V1.one (At.int .u64 x)), .v (.one (.int .u64 y)), .v (.one (.int .u64 c))].map (LV.den E0)).toArray = #[.int .u64 x, .int .u64 y, .int .u64 c] := rfl
    rw [this, run_callFunc_extern hf hname hb hn he, run_add64 x y c h1 h2 h3 h4]
    rfl
  · cases hF

def sub64E : Array Value → Sem Value := fun args => do
  let (x, y, b) ← Extern.MathBitsCarry.three "Sub64" args
  pure (Extern.MathBitsCarry.pair ((x + Extern.MathBitsCarry.m64 - y - b) % Extern.MathBitsCarry.m64) (if x < y + b then 1 else 0))

theorem run_sub64E (x y b : Nat) (hb : b ≤ 1) (w : World) :
    (sub64E #[.int .u64 x, .int .u64 y, .int .u64 b]).run P w =
      .ok (.tuple #[.int .u64 (((x + 18446744073709551616 - y - b) % 18446744073709551616 : Nat) : Int), .int .u64 ((if x < y + b then 1 else 0 : Nat) : Int)]) w := by
  have : b = 0 ∨ b = 1 := by omega
  rcases this with rfl | rfl <;> rfl

theorem sub64_ok {f : FuncId} {fn : Func} (hf : P.funcs[f]? = some fn) (hname : (fn.name == "runtime.NumGoroutine") = false) (hb : fn.body.isNone = true) (hn : Extern.findNext fn = none) (he : Extern.find fn = some sub64E) : SumOK P f (pureSum subF) := by
  refine pureSum_ok fun args v cs hF hc w => .inr ?_
  unfold subF at hF
  split at hF
  · rename_i x y c
    cases hF
    have hx := hc _ (List.mem_singleton.2 rfl)
    simp only [Bool.and_eq_true, decide_eq_true_eq] at hx
    obtain ⟨h1, h2, h2', h3, h4⟩ := hx
    obtain ⟨X, rfl⟩ := Int.eq_ofNat_of_zero_le h1
    obtain ⟨Y, rfl⟩ := Int.eq_ofNat_of_zero_le h2
    obtain ⟨C, rfl⟩ := Int.eq_ofNat_of_zero_le h3
    refine ⟨_, w, ?_, rfl, .refl _ _⟩
    have : ([LV.v (V1.one (At.int .u64 (X : Int))), .v (.one (.int .u64 (Y : Int))), .v (.one (.int .u64 (C : Int)))].map (LV.den E0)).toArray = #[.int .u64 (X : Int), .int .u64 (Y : Int), .int .u64 (C : Int)] := rfl
    rw [this, run_callFunc_extern hf hname hb hn he, run_sub64E X Y C (by omega)]
    have e1 : (((X + 18446744073709551616 - Y - C) % 18446744073709551616 : Nat) : Int) = u64 ((X : Int) - Y - C) := by unfold u64; omega
    have e2 : ((if X < Y + C then 1 else 0 : Nat) : Int) = if (X : Int) < (Y : Int) + (C : Int) then 1 else 0 := by
      by_cases h : X < Y + C
      · rw [if_pos h, if_pos (by omega)]; rfl
      · rw [if_neg h, if_neg (by omega)]; rfl
    rw [e1, e2]
    rfl
  · cases hF

end
end Go.Lr
