/- The local evaluator: guards, one step in whatever state, what a step hangs on. -/
import Derived.Test.YtjbikokffafdbaaLrS7
namespace Go.Lr
open Go.RowKit

section
variable {P : Program} {S : FuncId → Option Sum} {E : Env} {τ : Nat → LV} {a : Act} {w : World} {g : Nat → Option Blk} {nb : Nat} {p : Nat → Bool}

theorem wants_spec {ops : Array Oper} {o : Oper} {gd : Option Bool} {b : Bool} {cs : List (Bool × Bool)} (hτ : ∀ t : Nat, a.tmps.getD t undef = (τ t).den E)
    (h : wants ops.toList τ o gd = some (b, cs)) (hc : ∀ c ∈ cs, c.1 = c.2) : Region.wanted o (yielded ops a.tmps) = b := by
  unfold wants at h
  unfold Region.wanted
  split at h
  · rename_i ho; rw [ho]; cases h; rfl
  · rename_i j want ho
    rw [ho]
    simp only
    split at h
    · rename_i t ht
      have hdst : (ops[j]?).bind (·.dst) = some t := by
        unfold guardTmp at ht
        have : ops.toList[j]? = ops[j]? := by simp
        rw [this] at ht
        split at ht
        · rename_i q hq; rw [hq]; exact ht
        · cases ht
      have hy : ∀ v, (τ t).den E = v → yielded ops a.tmps j = match (if t < a.tmps.size then some v else none) with | some (.bool b) => some b | _ => none := by
        intro v hv
        have := hτ t
        rw [hv] at this
        unfold yielded
        rw [hdst]
        simp only [Option.bind_some]
        by_cases hlt : t < a.tmps.size
        · rw [if_pos hlt]
          have h2 : a.tmps[t]? = some v := by
            rw [Array.getD_eq_getD_getElem?, Array.getElem?_eq_getElem hlt] at this
            rw [Array.getElem?_eq_getElem hlt]
            simpa using this
          rw [h2]
          cases v <;> rfl
        · rw [if_neg hlt, Array.getElem?_eq_none (Nat.le_of_not_lt hlt)]
      split at h
      · rename_i q hq
        have h1 := hy (.bool q) (by rw [hq]; rfl)
        have hlt : t < a.tmps.size := by
          have h2 := hτ t
          rw [hq] at h2
          by_cases hlt : t < a.tmps.size
          · exact hlt
          · rw [Array.getD_eq_getD_getElem?, Array.getElem?_eq_none (Nat.le_of_not_lt hlt)] at h2
            simp [undef, LV.den, V1.den, At.den] at h2
        rw [if_pos hlt] at h1
        rw [h1]
        split at h
        · rename_i c cs' hcs
          cases h
          have := isTrue_spec hcs hc
          subst this
          cases q <;> cases want <;> rfl
        · cases h
      · rename_i vs hq
        have h1 := hy (.tuple vs) (by rw [hq]; rfl)
        have : yielded ops a.tmps j = none := by rw [h1]; by_cases hlt : t < a.tmps.size <;> simp [hlt]
        rw [this]
        cases h
        cases want <;> rfl
      · cases h
    · cases h

/-- What stands behind the comparing of structs and arrays: proved further on. -/
def BinOK (P : Program) : Prop :=
  ∀ (E : Env) (w : World) (a : Act) (op : BinOp) (t : TypeId) (x y : LV) (xo yo : Operand) (kn : Bool) (d : Dl), a.eval xo = x.den E → a.eval yo = y.den E → binD P op t x y kn = some d →
    Pur P E w (do eqGuard op t xo yo (x.den E) (y.den E); binOp op t (x.den E) (y.den E)) d

theorem eval_tmp (hτ : ∀ t : Nat, a.tmps.getD t undef = (τ t).den E) : ∀ t, a.eval (.tmp t) = (τ t).den E := hτ

theorem skipD_post (hr : Rel E g w) : Post w E g nb skipD E w := .refl rfl rfl hr

theorem skipD_ok : OkD p g nb skipD := .plain rfl rfl rfl

/-- A step of the evaluator, wanted or not, against the model's. -/
theorem stepD_wp (hB : BinOK P) (hS : AllOK P S) {z : Md} {ops : Array Oper} {i : Nat} {o : Oper} {gd pd : Option Bool} {d : Dl} {cs : List (Bool × Bool)} (hi : ops[i]? = some o)
    (hτ : ∀ t : Nat, a.tmps.getD t undef = (τ t).den E) (hp : ∀ t, (τ t).ok p = true) (hr : Rel E g w) (hg : ∀ i c, g i = some c → p i = true ∧ okL p c.cells = true)
    (hn : ∀ i, nb ≤ i → i < nb + d.nw.length → p i = false)
    (h : stepD P S z ops.toList τ g nb gd pd o = some (d, cs)) (hc : ∀ c ∈ d.cs, c.1 = c.2) (hc' : ∀ c ∈ cs, c.1 = c.2) {K : Act → World → Prop} {Q : Exit → Act → World → Prop}
    (hk : ∀ E' w', Post w E g nb d E' w' → K (a.put o.dst (d.val.den E')) w') : wpOp P ops Q i K a w := by
  unfold wpOp
  simp only [hi]
  unfold stepD at h
  split at h
  · rename_i cs' hw
    split at h
    · rename_i d' hd
      cases h
      have := wants_spec (a := a) (E := E) (ops := ops) hτ hw hc'
      rw [this]
      simp only [if_true]
      exact .inl (opD_step hS (eval_tmp hτ) hp (fun op t x y xo yo kn d h1 h2 h3 => hB E w a op t x y xo yo kn d h1 h2 h3) hd hr hg hn hc K Q hk)
    · cases h
  · rename_i cs' hw
    cases h
    have := wants_spec (a := a) (E := E) (ops := ops) hτ hw hc'
    rw [this]
    simp only [Bool.false_eq_true, if_false]
    exact hk E w (skipD_post hr)
  · cases h

theorem stepD_ok {z : Md} {all : List Oper} {o : Oper} {gd pd : Option Bool} {d : Dl} {cs : List (Bool × Bool)} (hp : ∀ t, (τ t).ok p = true)
    (hg : ∀ i c, g i = some c → p i = true ∧ okL p c.cells = true) (h : stepD P S z all τ g nb gd pd o = some (d, cs)) : OkD p g nb d := by
  unfold stepD at h
  split at h
  · split at h
    · rename_i d' hd
      cases h
      exact opD_ok hp hd hg
    · cases h
  · cases h; exact skipD_ok
  · cases h

-- what a step hangs on
theorem ev_local {τ' : Nat → LV} {x : Operand} (h : ∀ t ∈ opTmps [x], τ' t = τ t) : ev τ' x = ev τ x := by
  cases x with
  | tmp t => simp [ev, h t (by simp [opTmps])]
  | _ => rfl

theorem opTmps_mem : ∀ {l : List Operand} {t : Tmp}, t ∈ opTmps l ↔ Operand.tmp t ∈ l
  | [], t => by simp [opTmps]
  | .tmp u :: l, t => by simp [opTmps, opTmps_mem (l := l)]
  | .const v :: l, t => by simp [opTmps, opTmps_mem (l := l)]
  | .global v :: l, t => by simp [opTmps, opTmps_mem (l := l)]
  | .func v :: l, t => by simp [opTmps, opTmps_mem (l := l)]

theorem ev_loc {τ' : Nat → LV} {l : List Operand} (h : ∀ t ∈ opTmps l, τ' t = τ t) {x : Operand} (hx : x ∈ l) : ev τ' x = ev τ x :=
  ev_local fun t ht => h t (by
    rw [opTmps_mem] at ht ⊢
    rw [List.mem_singleton] at ht
    rw [ht]; exact hx)

theorem evs_loc {τ' : Nat → LV} {l : List Operand} (h : ∀ t ∈ opTmps l, τ' t = τ t) : ∀ {xs : List Operand}, (∀ x ∈ xs, x ∈ l) → evs τ' xs = evs τ xs
  | [], _ => rfl
  | x :: xs, hx => by
    simp only [evs]
    rw [ev_loc h (hx x (by simp)), evs_loc h fun y hy => hx y (by simp [hy])]

theorem evParts_loc {τ' : Nat → LV} {l : List Operand} (h : ∀ t ∈ opTmps l, τ' t = τ t) : ∀ {xs : List (Nat × Operand)}, (∀ x ∈ xs, x.2 ∈ l) → evParts τ' xs = evParts τ xs
  | [], _ => rfl
  | (i, x) :: xs, hx => by
    simp only [evParts]
    rw [ev_loc h (hx (i, x) (by simp)), evParts_loc h fun y hy => hx y (by simp [hy])]

theorem oevs_loc {τ' : Nat → LV} {l : List Operand} (h : ∀ t ∈ opTmps l, τ' t = τ t) {x : Option Operand} (hx : ∀ y, x = some y → y ∈ l) : oevs τ' x = oevs τ x := by
  cases x with
  | none => rfl
  | some y => simp only [oevs]; rw [ev_loc h (hx y rfl)]

theorem loadD_loc {g' : Nat → Option Blk} {t : TypeId} {v : LV} {d : Dl} (h : loadD P t v g = some d) (hg : ∀ i ∈ d.rd ++ keys d.wr, g' i = g i) : loadD P t v g' = some d := by
  unfold loadD at h ⊢
  split at h
  · rename_i b o
    split at h
    · rename_i k hk
      split at h
      · rename_i x hx
        cases h
        have := hg b (by simp)
        simp [this, hk, hx]
      · cases h
    · cases h
  · cases h

theorem storeD_loc {g' : Nat → Option Blk} {t : TypeId} {u v : LV} {d : Dl} (h : storeD P t u v g = some d) (hg : ∀ i ∈ d.rd ++ keys d.wr, g' i = g i) : storeD P t u v g' = some d := by
  unfold storeD at h ⊢
  split at h
  · rename_i b o
    split at h
    · rename_i ty es l hk
      split at h
      · rename_i vs n hvs hn
        split at h
        · rename_i r hlen hlay
          cases h
          have := hg b (by simp [keys])
          simp [this, hk, hlen, hlay]
        · cases h
      · cases h
    · cases h
  · cases h

theorem liveAll_loc {g' : Nat → Option Blk} : ∀ {l : List Nat}, (∀ i ∈ l, g' i = g i) → liveAll g' l = liveAll g l
  | [], _ => rfl
  | b :: l, h => by
    simp only [liveAll]
    rw [h b (by simp), liveAll_loc fun i hi => h i (by simp [hi])]

theorem keys_eq : ∀ (l : List (Nat × Option Blk)), keys l = l.map (·.1)
  | [] => rfl
  | (i, s) :: l => by simp [keys, keys_eq l]

theorem sumD_loc {g' : Nat → Option Blk} {t : Tch} {d : Dl} (h : sumD t g nb = some d) (hg : ∀ i ∈ d.rd ++ keys d.wr, g' i = g i) : sumD t g' nb = some d := by
  have h0 := h
  unfold sumD at h
  split at h
  · split at h
    · split at h
      · split at h
        · cases h
          have h1 : liveAll g' t.rd = liveAll g t.rd := liveAll_loc fun i hi => hg i (by simp [hi])
          have h2 : liveAll g' t.wr = liveAll g t.wr := liveAll_loc fun i hi => hg i (by simp [hi])
          unfold sumD at h0 ⊢
          rw [h1, h2]
          exact h0
        · cases h
      · cases h
    · cases h
  · cases h

theorem opD_loc {τ' : Nat → LV} {g' : Nat → Option Blk} {z : Bool} {pd : Option Bool} {op : Op} {d : Dl} (h : opD P S z τ g nb pd op = some d)
    (ht : ∀ t ∈ opTmps op.operands.toList, τ' t = τ t) (hg : ∀ i ∈ d.rd ++ keys d.wr, g' i = g i) : opD P S z τ' g' nb pd op = some d := by
  cases op <;> simp only [opD, on1, on2, onL, onP, moveD, reduceCtorEq] at h ⊢
  case move x => rw [ev_loc ht (x := x) (by simp [Op.operands])]; exact h
  case assign x => rw [ev_loc ht (x := x) (by simp [Op.operands])]; exact h
  case pick c x y =>
    unfold pickD at h ⊢
    rw [ev_loc ht (x := c) (by simp [Op.operands]), ev_loc ht (x := x) (by simp [Op.operands]), ev_loc ht (x := y) (by simp [Op.operands])]; exact h
  case alloc t => exact h
  case box t x => rw [ev_loc ht (x := x) (by simp [Op.operands])]; exact h
  case build t parts => rw [evParts_loc ht (xs := parts.toList) (fun x hx => by simp only [Op.operands]; exact List.mem_map_of_mem hx)]; exact h
  case buildSlice t n parts => rw [evParts_loc ht (xs := parts.toList) (fun x hx => by simp only [Op.operands]; exact List.mem_map_of_mem hx)]; exact h
  case load t x =>
    rw [ev_loc ht (x := x) (by simp [Op.operands])]
    split at h
    · exact loadD_loc h hg
    · cases h
  case store t x y =>
    rw [ev_loc ht (x := x) (by simp [Op.operands]), ev_loc ht (x := y) (by simp [Op.operands])]
    split at h
    · split at h
      · exact storeD_loc h hg
      · cases h
    · cases h
  case nilCheck x => rw [ev_loc ht (x := x) (by simp [Op.operands])]; exact h
  case binOp op t x y ty => rw [ev_loc ht (x := x) (by simp [Op.operands]), ev_loc ht (x := y) (by simp [Op.operands])]; exact h
  case unOp op t x => rw [ev_loc ht (x := x) (by simp [Op.operands])]; exact h
  case convert t u x => rw [ev_loc ht (x := x) (by simp [Op.operands])]; exact h
  case makeFunc f first caps => rw [evs_loc ht (xs := caps.toList) (fun x hx => by simp [Op.operands]; right; simpa using hx)]; exact h
  case slice t x lo hi mx =>
    unfold slD at h ⊢
    split
    · rw [oevs_loc ht (x := lo) (fun y hy => by subst hy; simp [Op.operands]), oevs_loc ht (x := hi) (fun y hy => by subst hy; simp [Op.operands])]
      simp only [on1] at h ⊢
      rw [ev_loc ht (x := x) (by simp [Op.operands])]
      exact h
    · exact h
  case fieldAddr t x i => rw [ev_loc ht (x := x) (by simp [Op.operands])]; exact h
  case field t x i => rw [ev_loc ht (x := x) (by simp [Op.operands])]; exact h
  case indexAddr t x i => rw [ev_loc ht (x := x) (by simp [Op.operands]), ev_loc ht (x := i) (by simp [Op.operands])]; exact h
  case index t x i => rw [ev_loc ht (x := x) (by simp [Op.operands]), ev_loc ht (x := i) (by simp [Op.operands])]; exact h
  case extract x i => rw [ev_loc ht (x := x) (by simp [Op.operands])]; exact h
  case call c =>
    have hargs : evs τ' c.args.toList = evs τ c.args.toList := evs_loc ht fun x hx => by
      simp only [Op.operands, Call.operands]
      cases c.callee <;> simp <;> first | exact Or.inr (by simpa using hx) | simpa using hx
    have hcal : callee τ' c = callee τ c := by
      unfold callee
      split
      · rename_i f hf
        rw [hargs, ev_loc ht (x := f) (by simp [Op.operands, Call.operands, hf])]
      · rfl
    unfold callD at h ⊢
    rw [hcal]
    simp only [onL] at h ⊢
    rw [hargs]
    split at h
    · exact h
    · split at h
      · rename_i f args hc
        split at h
        · rename_i s hs
          split at h
          · rename_i t ht'
            exact sumD_loc h hg
          · cases h
        · cases h
      · cases h

theorem wants_loc {τ' : Nat → LV} {all : List Oper} {o : Oper} {gd : Option Bool} (h : ∀ j w t, o.guard = some (j, w) → guardTmp all j = some t → τ' t = τ t) : wants all τ' o gd = wants all τ o gd := by
  unfold wants
  split
  · rfl
  · rename_i j want ho
    split
    · rename_i t ht
      rw [h j want t ho ht]
    · rfl

theorem stepD_loc {τ' : Nat → LV} {g' : Nat → Option Blk} {z : Md} {all : List Oper} {r : Rec} (h : stepD P S z all τ g r.nb r.gd r.pd r.o = some (r.d, r.gcs))
    (ht : ∀ t ∈ r.rT all, τ' t = τ t) (hg : ∀ i ∈ r.d.rd ++ keys r.d.wr, g' i = g i) : stepD P S z all τ' g' r.nb r.gd r.pd r.o = some (r.d, r.gcs) := by
  have hops : ∀ t ∈ opTmps r.o.op.operands.toList, τ' t = τ t := by
    intro t htm
    refine ht t ?_
    unfold Rec.rT
    split
    · split
      · exact List.mem_cons_of_mem _ htm
      · exact htm
    · exact htm
  have hw : wants all τ' r.o r.gd = wants all τ r.o r.gd := wants_loc fun j w t h1 h2 => ht t (by unfold Rec.rT; simp [h1, h2])
  unfold stepD at h ⊢
  rw [hw]
  cases hc : wants all τ r.o r.gd with
  | none => rw [hc] at h; cases h
  | some q =>
    obtain ⟨b, cs⟩ := q
    rw [hc] at h
    cases b with
    | false => exact h
    | true =>
      simp only at h ⊢
      cases hd : opD P S z.z τ g r.nb r.pd r.o.op with
      | none => rw [hd] at h; cases h
      | some d =>
        rw [hd] at h
        cases h
        rw [opD_loc hd hops hg]

end
end Go.Lr
