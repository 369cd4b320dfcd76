/- Joined texts. What each part proves stands ahead of it; no condition. -/
import Derived.Test.YtnabopepomjncaaLrM1
import Derived.Laws.Externs
import Derived.KernelRfl
import Derived.Test.YtnabopepomjncaaProg

/- The local evaluator: guards, one step in whatever state, what a step hangs on. -/
namespace Go.Lr
open Go.RowKit

section
variable {P : Program} {S : FuncId → Option SumK} {E : Env} {τ : Nat → LV} {a : Act} {w : World} {g : Nat → Option Blk} {nb : Nat} {p : Nat → Bool}

theorem wants_spec {ops : Array Oper} {o : Oper} {gd : Option Bool} {b : Bool} {cs : List (Bool × Bool)} (hτ : ∀ t : Nat, a.tmps.getD t undef = (τ t).den E)
    (h : wants ops.toList τ o gd = some (b, cs)) (hc : ∀ c ∈ cs, c.1 = c.2) : Region.wanted o (yielded ops a.tmps) = b := by
  unfold wants at h
  unfold Region.wanted
  split at h
  · rename_i ho; rw [ho]; cases h; rfl
  · rename_i j want ho
    rw [ho]
    simp only
    split at h
    · rename_i t ht
      have hdst : (ops[j]?).bind (·.dst) = some t := by
        unfold guardTmp at ht
        have : ops.toList[j]? = ops[j]? := by simp
        rw [this] at ht
        split at ht
        · rename_i q hq; rw [hq]; exact ht
        · cases ht
      have hy : ∀ v, (τ t).den E = v → yielded ops a.tmps j = match (if t < a.tmps.size then some v else none) with | some (.bool b) => some b | _ => none := by
        intro v hv
        have := hτ t
        rw [hv] at this
        unfold yielded
        rw [hdst]
        simp only [Option.bind_some]
        by_cases hlt : t < a.tmps.size
        · rw [if_pos hlt]
          have h2 : a.tmps[t]? = some v := by
            rw [Array.getD_eq_getD_getElem?, Array.getElem?_eq_getElem hlt] at this
            rw [Array.getElem?_eq_getElem hlt]
            simpa using this
          rw [h2]
          cases v <;> rfl
        · rw [if_neg hlt, Array.getElem?_eq_none (Nat.le_of_not_lt hlt)]
      split at h
      · rename_i q hq
        have h1 := hy (.bool q) (by rw [hq]; rfl)
        have hlt : t < a.tmps.size := by
          have h2 := hτ t
          rw [hq] at h2
          by_cases hlt : t < a.tmps.size
          · exact hlt
          · rw [Array.getD_eq_getD_getElem?, Array.getElem?_eq_none (Nat.le_of_not_lt hlt)] at h2
            simp [undef, LV.den, V1.den, At.den] at h2
        rw [if_pos hlt] at h1
        rw [h1]
        split at h
        · rename_i c cs' hcs
          cases h
          have := isTrue_spec hcs hc
          subst this
          cases q <;> cases want <;> rfl
        · cases h
      · rename_i vs hq
        have h1 := hy (.tuple vs) (by rw [hq]; rfl)
        have : yielded ops a.tmps j = none := by rw [h1]; by_cases hlt : t < a.tmps.size <;> simp [hlt]
        rw [this]
        cases h
        cases want <;> rfl
      · cases h
    · cases h

/-- What stands behind the comparing of structs and arrays: proved further on. -/
def BinOK (P : Program) : Prop :=
  ∀ (E : Env) (w : World) (a : Act) (op : BinOp) (t : TypeId) (x y : LV) (xo yo : Operand) (kn : Bool) (d : Dl), a.eval xo = x.den E → a.eval yo = y.den E → binD P op t x y kn = some d →
    Pur P E w (do eqGuard op t xo yo (x.den E) (y.den E); binOp op t (x.den E) (y.den E)) d

theorem eval_tmp (hτ : ∀ t : Nat, a.tmps.getD t undef = (τ t).den E) : ∀ t, a.eval (.tmp t) = (τ t).den E := hτ

theorem skipD_post (hr : Rel E g w) : Post w E g nb skipD E w := .refl rfl rfl hr

theorem skipD_ok : OkD p g nb skipD := .plain rfl rfl rfl

/-- A step of the evaluator, wanted or not, against the model's. -/
theorem stepD_wp (hB : BinOK P) (hS : AllOK P S) {z : Md} {ops : Array Oper} {i : Nat} {o : Oper} {gd pd : Option Bool} {d : Dl} {cs : List (Bool × Bool)} (hi : ops[i]? = some o)
    (hτ : ∀ t : Nat, a.tmps.getD t undef = (τ t).den E) (hp : ∀ t, (τ t).ok p = true) (hr : Rel E g w) (hg : ∀ i c, g i = some c → p i = true ∧ okL p c.cells = true)
    (hn : ∀ i, nb ≤ i → i < nb + d.nw.length → p i = false)
    (h : stepD P S z ops.toList τ g nb gd pd o = some (d, cs)) (hc : ∀ c ∈ d.cs, c.1 = c.2) (hc' : ∀ c ∈ cs, c.1 = c.2) {K : Act → World → Prop} {Q : Exit → Act → World → Prop}
    (hk : ∀ E' w', Post w E g nb d E' w' → K (a.put o.dst (d.val.den E')) w') : wpOp P ops Q i K a w := by
  unfold wpOp
  simp only [hi]
  unfold stepD at h
  split at h
  · rename_i cs' hw
    split at h
    · rename_i d' hd
      cases h
      have := wants_spec (a := a) (E := E) (ops := ops) hτ hw hc'
      rw [this]
      simp only [if_true]
      exact .inl (opD_step hS (eval_tmp hτ) hp (fun op t x y xo yo kn d h1 h2 h3 => hB E w a op t x y xo yo kn d h1 h2 h3) hd hr hg hn hc K Q hk)
    · cases h
  · rename_i cs' hw
    cases h
    have := wants_spec (a := a) (E := E) (ops := ops) hτ hw hc'
    rw [this]
    simp only [Bool.false_eq_true, if_false]
    exact hk E w (skipD_post hr)
  · cases h

theorem stepD_ok {z : Md} {all : List Oper} {o : Oper} {gd pd : Option Bool} {d : Dl} {cs : List (Bool × Bool)} (hp : ∀ t, (τ t).ok p = true)
    (hg : ∀ i c, g i = some c → p i = true ∧ okL p c.cells = true) (h : stepD P S z all τ g nb gd pd o = some (d, cs)) : OkD p g nb d := by
  unfold stepD at h
  split at h
  · split at h
    · rename_i d' hd
      cases h
      exact opD_ok hp hd hg
    · cases h
  · cases h; exact skipD_ok
  · cases h

-- what a step hangs on
theorem ev_local {τ' : Nat → LV} {x : Operand} (h : ∀ t ∈ opTmps [x], τ' t = τ t) : ev τ' x = ev τ x := by
  cases x with
  | tmp t => simp [ev, h t (by simp [opTmps])]
  | _ => rfl

theorem opTmps_mem : ∀ {l : List Operand} {t : Tmp}, t ∈ opTmps l ↔ Operand.tmp t ∈ l
  | [], t => by simp [opTmps]
  | .tmp u :: l, t => by simp [opTmps, opTmps_mem (l := l)]
  | .const v :: l, t => by simp [opTmps, opTmps_mem (l := l)]
  | .global v :: l, t => by simp [opTmps, opTmps_mem (l := l)]
  | .func v :: l, t => by simp [opTmps, opTmps_mem (l := l)]

theorem ev_loc {τ' : Nat → LV} {l : List Operand} (h : ∀ t ∈ opTmps l, τ' t = τ t) {x : Operand} (hx : x ∈ l) : ev τ' x = ev τ x :=
  ev_local fun t ht => h t (by
    rw [opTmps_mem] at ht ⊢
    rw [List.mem_singleton] at ht
    rw [ht]; exact hx)

theorem evs_loc {τ' : Nat → LV} {l : List Operand} (h : ∀ t ∈ opTmps l, τ' t = τ t) : ∀ {xs : List Operand}, (∀ x ∈ xs, x ∈ l) → evs τ' xs = evs τ xs
  | [], _ => rfl
  | x :: xs, hx => by
    simp only [evs]
    rw [ev_loc h (hx x (by simp)), evs_loc h fun y hy => hx y (by simp [hy])]

theorem evParts_loc {τ' : Nat → LV} {l : List Operand} (h : ∀ t ∈ opTmps l, τ' t = τ t) : ∀ {xs : List (Nat × Operand)}, (∀ x ∈ xs, x.2 ∈ l) → evParts τ' xs = evParts τ xs
  | [], _ => rfl
  | (i, x) :: xs, hx => by
    simp only [evParts]
    rw [ev_loc h (hx (i, x) (by simp)), evParts_loc h fun y hy => hx y (by simp [hy])]

theorem oevs_loc {τ' : Nat → LV} {l : List Operand} (h : ∀ t ∈ opTmps l, τ' t = τ t) {x : Option Operand} (hx : ∀ y, x = some y → y ∈ l) : oevs τ' x = oevs τ x := by
  cases x with
  | none => rfl
  | some y => simp only [oevs]; rw [ev_loc h (hx y rfl)]

theorem loadD_loc {g' : Nat → Option Blk} {t : TypeId} {v : LV} {d : Dl} (h : loadD P t v g = some d) (hg : ∀ i ∈ d.rd ++ keys d.wr, g' i = g i) : loadD P t v g' = some d := by
  unfold loadD at h ⊢
  split at h
  · rename_i b o
    split at h
    · rename_i k hk
      split at h
      · rename_i x hx
        cases h
        have := hg b (by simp)
        simp [this, hk, hx]
      · cases h
    · cases h
  · cases h

theorem loadXD_loc {g' : Nat → Option Blk} {t : TypeId} {v : LV} {d : Dl} (h : loadXD P t v g = some d) (hg : ∀ i ∈ d.rd ++ keys d.wr, g' i = g i) : loadXD P t v g' = some d := by
  unfold loadXD at h ⊢
  split at h
  · rename_i b o
    split at h
    · rename_i k hk
      split at h
      · rename_i x cs hx
        cases h
        have := hg b (by simp)
        simp [this, hk, hx]
      · cases h
    · cases h
  · exact loadD_loc h hg

theorem storeP_loc {g' : Nat → Option Blk} {t : TypeId} {u v : LV} {d : Dl} (h : storeP P t u v g = some d) (hg : ∀ i ∈ d.rd ++ keys d.wr, g' i = g i) : storeP P t u v g' = some d := by
  unfold storeP at h ⊢
  split at h
  · rename_i b o
    split at h
    · rename_i ty es l hk
      split at h
      · rename_i vs n hvs hn
        split at h
        · rename_i r hlen hlay
          cases h
          have := hg b (by simp [keys])
          simp [this, hk, hlen, hlay]
        · cases h
      · cases h
    · cases h
  · cases h

theorem storeD_loc {g' : Nat → Option Blk} {t : TypeId} {u v : LV} {d : Dl} (h : storeD P t u v g = some d) (hg : ∀ i ∈ d.rd ++ keys d.wr, g' i = g i) : storeD P t u v g' = some d := by
  unfold storeD at h ⊢
  split at h
  · have h0 := h
    obtain ⟨ty, es, l, z, hk, rfl, hs, hz, rfl⟩ := storeX_spec h
    have := hg _ (by simp [keys]; rfl)
    unfold storeX at h0 ⊢
    simp only [this]
    exact h0
  · exact storeP_loc h hg

theorem newsOf_loc {g' : Nat → Option Blk} {s : Nat} {x : LV} {m b : Nat} {news : List At} {cs : List (Bool × Bool)} (h : newsOf g s x = some (m, news, b, cs)) (hg : g' b = g b) : newsOf g' s x = some (m, news, b, cs) := by
  unfold newsOf at h ⊢
  split at h
  · split at h
    · rename_i k hk
      split at h
      · rename_i l hcut
        split at h
        · rename_i hall
          cases h
          simp [hg, hk, hcut, hall]
        · cases h
      · cases h
    · cases h
  · split at h
    · rename_i k hk
      cases h
      simp [hg, hk]
    · cases h
  · cases h

theorem oldsOf_loc {g' : Nat → Option Blk} {e : TypeId} {s : Nat} {x : LV} {n : Nat} {old : List At} {kill : Option Nat} (h : oldsOf g e s x = some (n, old, kill)) (hg : ∀ q, kill = some q → g' q = g q) : oldsOf g' e s x = some (n, old, kill) := by
  unfold oldsOf at h ⊢
  split at h
  · exact h
  · split at h
    · rename_i ty es l hk
      split at h
      · rename_i h1 h2 h3
        cases h
        simp [hg _ rfl, hk, h1, h2, h3]
      · cases h
    · cases h
  · split at h
    · rename_i ty l hk
      split at h
      · rename_i h1 h2 h3
        cases h
        simp [hg _ rfl, hk, h1, h2, h3]
      · cases h
    · cases h
  · cases h

theorem appendX_loc {g' : Nat → Option Blk} {ts : List TypeId} {args : List LV} {d : Dl} (h : appendX P nb g ts args = some d) (hg : ∀ i ∈ d.rd ++ keys d.wr, g' i = g i) : appendX P nb g' ts args = some d := by
  unfold appendX at h ⊢
  split at h
  · split at h
    · split at h
      · split at h
        · rename_i n old kill m news b cs hold hnews
          split at h
          · rename_i q1 q2 q3
            cases h
            have e1 : g' b = g b := hg b (by simp)
            have e2 : ∀ q, kill = some q → g' q = g q := fun q hq => by subst hq; exact hg q (by simp [optL])
            simp [oldsOf_loc hold e2, newsOf_loc hnews e1, q1, q2, q3]
          · cases h
        · cases h
      · cases h
    · cases h
  · cases h

theorem appendD_loc {g' : Nat → Option Blk} {ts : List TypeId} {args : List LV} {d : Dl} (h : appendD P nb g ts args = some d) (hg : ∀ i ∈ d.rd ++ keys d.wr, g' i = g i) : appendD P nb g' ts args = some d := by
  unfold appendD at h ⊢
  split at h
  · have h0 := h
    obtain ⟨t, e, i, -, -, -, hd⟩ := appendN_spec h
    unfold appendN at h0 ⊢
    rcases hd with ⟨rfl, hd⟩ | ⟨b, o, n, c, k, rfl, hk, -, rfl⟩
    · exact h0
    · have e1 : g' b = g b := hg b (by simp)
      simp only [e1]
      exact h0
  · exact appendX_loc h hg

theorem liveAll_loc {g' : Nat → Option Blk} : ∀ {l : List Nat}, (∀ i ∈ l, g' i = g i) → liveAll g' l = liveAll g l
  | [], _ => rfl
  | b :: l, h => by
    simp only [liveAll]
    rw [h b (by simp), liveAll_loc fun i hi => h i (by simp [hi])]

theorem keys_eq : ∀ (l : List (Nat × Option Blk)), keys l = l.map (·.1)
  | [] => rfl
  | (i, s) :: l => by simp [keys, keys_eq l]

theorem sumD_loc {g' : Nat → Option Blk} {t : Tch} {d : Dl} (h : sumD t g nb = some d) (hg : ∀ i ∈ d.rd ++ keys d.wr, g' i = g i) : sumD t g' nb = some d := by
  have h0 := h
  unfold sumD at h
  split at h
  · split at h
    · split at h
      · split at h
        · cases h
          have h1 : liveAll g' t.rd = liveAll g t.rd := liveAll_loc fun i hi => hg i (by simp [hi])
          have h2 : liveAll g' t.wr = liveAll g t.wr := liveAll_loc fun i hi => hg i (by simp [hi])
          unfold sumD at h0 ⊢
          rw [h1, h2]
          exact h0
        · cases h
      · cases h
    · cases h
  · cases h

theorem allIn_mem : ∀ {l m : List Nat}, allIn l m = true → ∀ a ∈ l, a ∈ m
  | [], m, _, a, ha => by cases ha
  | b :: l, m, h, a, ha => by
    simp only [allIn] at h
    split at h
    · rename_i hb
      rcases List.mem_cons.1 ha with rfl | ha
      · exact memB_iff.1 hb
      · exact allIn_mem h a ha
    · cases h
theorem peekL_loc {g g' : Nat → Option Blk} : ∀ {l : List Nat}, (∀ b ∈ l, g' b = g b) → peekL g' l = peekL g l
  | [], _ => rfl
  | b :: l, h => by
    simp only [peekL]
    rw [h b (by simp), peekL_loc fun b hb => h b (by simp [hb])]
theorem reach_sub {g : Nat → Option Blk} : ∀ (n : Nat) (l seen r : List Nat), reach g n l seen = some r → ∀ i ∈ seen, i ∈ r
  | n, [], seen, r, h, i, hi => by cases n <;> (simp only [reach] at h; cases h; exact hi)
  | 0, _ :: _, _, _, h, _, _ => by simp [reach] at h
  | n + 1, b :: l, seen, r, h, i, hi => by
    simp only [reach] at h
    split at h
    · exact reach_sub n l seen r h i hi
    · split at h
      · exact reach_sub n _ _ r h i (List.mem_cons_of_mem _ hi)
      · cases h
theorem reach_loc {g g' : Nat → Option Blk} : ∀ (n : Nat) (l seen r : List Nat), reach g n l seen = some r → (∀ i ∈ r, g' i = g i) → reach g' n l seen = some r
  | n, [], seen, r, h, _ => by cases n <;> (simp only [reach] at h ⊢; exact h)
  | 0, _ :: _, _, _, h, _ => by simp [reach] at h
  | n + 1, b :: l, seen, r, h, hg => by
    simp only [reach] at h ⊢
    split at h
    · exact reach_loc n l seen r h hg
    · split at h
      · rename_i k hk
        have hb : b ∈ r := reach_sub n _ _ r h b (List.mem_cons_self ..)
        rw [hg b hb, hk]
        exact reach_loc n _ _ r h hg
      · cases h
theorem sumK_loc {g' : Nat → Option Blk} {s : SumK} {args : List LV} {d : Dl} (h : sumK s args g nb = some d) (hg : ∀ i ∈ d.rd ++ keys d.wr, g' i = g i) : sumK s args g' nb = some d := by
  cases s with
  | old s =>
    simp only [sumK] at h ⊢
    split at h
    · exact sumD_loc h hg
    · cases h
  | peek s =>
    simp only [sumK] at h ⊢
    split at h
    · rename_i t ht
      split at h
      · rename_i ha
        have hrd : d.rd = t.rd ++ t.wr := by
          obtain ⟨rB, wB, ans, ws, -, -, -, -, -, rfl⟩ := sumD_split h
          rfl
        have hpk : peekL g' (ptrBs args) = peekL g (ptrBs args) := peekL_loc fun b hb => hg b (by rw [hrd]; exact List.mem_append_left _ (allIn_mem ha b hb))
        rw [hpk, ht]
        simp only [ha]
        exact sumD_loc h hg
      · cases h
    · cases h
  | gen s =>
    simp only [sumK] at h ⊢
    split at h
    · rename_i seen hseen
      split at h
      · rename_i ks hks
        have hrd : d.rd = seen := by
          obtain ⟨d0, -, -, -, -, -, -, rfl⟩ := genK_split h
          rfl
        have hs : ∀ i ∈ seen, g' i = g i := fun i hi => hg i (List.mem_append_left _ (by rw [hrd]; exact hi))
        rw [reach_loc _ _ _ _ hseen hs]
        simp only [liveAll_loc hs, hks]
        exact h
      · cases h
    · cases h

theorem opD_loc {τ' : Nat → LV} {g' : Nat → Option Blk} {z : Bool} {pd : Option Bool} {op : Op} {d : Dl} (h : opD P S z τ g nb pd op = some d)
    (ht : ∀ t ∈ opTmps op.operands.toList, τ' t = τ t) (hg : ∀ i ∈ d.rd ++ keys d.wr, g' i = g i) : opD P S z τ' g' nb pd op = some d := by
  cases op <;> simp only [opD, on1, on2, onL, onP, moveD, reduceCtorEq] at h ⊢
  case move x => rw [ev_loc ht (x := x) (by simp [Op.operands])]; exact h
  case assign x => rw [ev_loc ht (x := x) (by simp [Op.operands])]; exact h
  case pick c x y =>
    unfold pickD at h ⊢
    rw [ev_loc ht (x := c) (by simp [Op.operands]), ev_loc ht (x := x) (by simp [Op.operands]), ev_loc ht (x := y) (by simp [Op.operands])]; exact h
  case alloc t => exact h
  case box t x => rw [ev_loc ht (x := x) (by simp [Op.operands])]; exact h
  case build t parts => rw [evParts_loc ht (xs := parts.toList) (fun x hx => by simp only [Op.operands]; exact List.mem_map_of_mem hx)]; exact h
  case buildSlice t n parts => rw [evParts_loc ht (xs := parts.toList) (fun x hx => by simp only [Op.operands]; exact List.mem_map_of_mem hx)]; exact h
  case load t x =>
    rw [ev_loc ht (x := x) (by simp [Op.operands])]
    split at h
    · exact loadXD_loc h hg
    · cases h
  case store t x y =>
    rw [ev_loc ht (x := x) (by simp [Op.operands]), ev_loc ht (x := y) (by simp [Op.operands])]
    split at h
    · split at h
      · exact storeD_loc h hg
      · cases h
    · cases h
  case nilCheck x => rw [ev_loc ht (x := x) (by simp [Op.operands])]; exact h
  case binOp op t x y ty => rw [ev_loc ht (x := x) (by simp [Op.operands]), ev_loc ht (x := y) (by simp [Op.operands])]; exact h
  case unOp op t x => rw [ev_loc ht (x := x) (by simp [Op.operands])]; exact h
  case convert t u x => rw [ev_loc ht (x := x) (by simp [Op.operands])]; exact h
  case makeFunc f first caps => rw [evs_loc ht (xs := caps.toList) (fun x hx => by simp [Op.operands]; right; simpa using hx)]; exact h
  case slice t x lo hi mx =>
    unfold slD at h ⊢
    split
    · rw [oevs_loc ht (x := lo) (fun y hy => by subst hy; simp [Op.operands]), oevs_loc ht (x := hi) (fun y hy => by subst hy; simp [Op.operands])]
      simp only [on1] at h ⊢
      rw [ev_loc ht (x := x) (by simp [Op.operands])]
      exact h
    · exact h
  case sliceToArrayPointer t x => rw [ev_loc ht (x := x) (by simp [Op.operands])]; exact h
  case fieldAddr t x i => rw [ev_loc ht (x := x) (by simp [Op.operands])]; exact h
  case field t x i => rw [ev_loc ht (x := x) (by simp [Op.operands])]; exact h
  case indexAddr t x i => rw [ev_loc ht (x := x) (by simp [Op.operands]), ev_loc ht (x := i) (by simp [Op.operands])]; exact h
  case index t x i => rw [ev_loc ht (x := x) (by simp [Op.operands]), ev_loc ht (x := i) (by simp [Op.operands])]; exact h
  case extract x i => rw [ev_loc ht (x := x) (by simp [Op.operands])]; exact h
  case call c =>
    have hargs : evs τ' c.args.toList = evs τ c.args.toList := evs_loc ht fun x hx => by
      simp only [Op.operands, Call.operands]
      cases c.callee <;> simp <;> first | exact Or.inr (by simpa using hx) | simpa using hx
    have hcal : callee τ' c = callee τ c := by
      unfold callee
      split
      · rename_i f hf
        rw [hargs, ev_loc ht (x := f) (by simp [Op.operands, Call.operands, hf])]
      · rfl
    unfold callD at h ⊢
    rw [hcal]
    simp only [onL] at h ⊢
    rw [hargs]
    split at h
    · split at h
      · exact appendD_loc h hg
      · cases h
    · exact h
    · split at h
      · rename_i f args hc
        split at h
        · rename_i s hs
          exact sumK_loc h hg
        · cases h
      · cases h

theorem wants_loc {τ' : Nat → LV} {all : List Oper} {o : Oper} {gd : Option Bool} (h : ∀ j w t, o.guard = some (j, w) → guardTmp all j = some t → τ' t = τ t) : wants all τ' o gd = wants all τ o gd := by
  unfold wants
  split
  · rfl
  · rename_i j want ho
    split
    · rename_i t ht
      rw [h j want t ho ht]
    · rfl

theorem stepD_loc {τ' : Nat → LV} {g' : Nat → Option Blk} {z : Md} {all : List Oper} {r : Rec} (h : stepD P S z all τ g r.nb r.gd r.pd r.o = some (r.d, r.gcs))
    (ht : ∀ t ∈ r.rT all, τ' t = τ t) (hg : ∀ i ∈ r.d.rd ++ keys r.d.wr, g' i = g i) : stepD P S z all τ' g' r.nb r.gd r.pd r.o = some (r.d, r.gcs) := by
  have hops : ∀ t ∈ opTmps r.o.op.operands.toList, τ' t = τ t := by
    intro t htm
    refine ht t ?_
    unfold Rec.rT
    split
    · split
      · exact List.mem_cons_of_mem _ htm
      · exact htm
    · exact htm
  have hw : wants all τ' r.o r.gd = wants all τ r.o r.gd := wants_loc fun j w t h1 h2 => ht t (by unfold Rec.rT; simp [h1, h2])
  unfold stepD at h ⊢
  rw [hw]
  cases hc : wants all τ r.o r.gd with
  | none => rw [hc] at h; cases h
  | some q =>
    obtain ⟨b, cs⟩ := q
    rw [hc] at h
    cases b with
    | false => exact h
    | true =>
      simp only at h ⊢
      cases hd : opD P S z.z τ g r.nb r.pd r.o.op with
      | none => rw [hd] at h; cases h
      | some d =>
        rw [hd] at h
        cases h
        rw [opD_loc hd hops hg]

end
end Go.Lr

/- The local evaluator: a region that draws its order. -/
namespace Go.Lr
open Go.RowKit

/-- A state, abstractly: slots and blocks. -/
structure AS where
  τ : Nat → LV
  g : Nat → Option Blk

def Rec.go (r : Rec) (s : AS) : AS := ⟨updτ s.τ r.o.dst r.d.val, nwG (wrG s.g r.d.wr) r.nb r.d.nw⟩

def fin : List Rec → AS → AS
  | [], s => s
  | r :: l, s => fin l (r.go s)

section
variable {P : Program} {S : FuncId → Option SumK} {z : Md} {all : List Oper}

def Val (P : Program) (S : FuncId → Option SumK) (z : Md) (all : List Oper) (r : Rec) (s : AS) : Prop :=
  stepD P S z all s.τ s.g r.nb r.gd r.pd r.o = some (r.d, r.gcs)

def chain (P : Program) (S : FuncId → Option SumK) (z : Md) (all : List Oper) : List Rec → AS → Prop
  | [], _ => True
  | r :: l, s => Val P S z all r s ∧ chain P S z all l (r.go s)

theorem anyMem_false : ∀ {l m : List Nat}, anyMem l m = false → ∀ i ∈ l, i ∉ m
  | [], m, _ => by simp
  | a :: l, m, h => by
    simp only [anyMem] at h
    cases hm : memB m a with
    | true => rw [hm] at h; cases h
    | false =>
      rw [hm] at h
      intro i hi
      rcases List.mem_cons.1 hi with rfl | hi
      · exact fun hh => by rw [memB_iff.2 hh] at hm; cases hm
      · exact anyMem_false h i hi

theorem news_mem : ∀ (l : List Blk) (nb i : Nat), i ∈ news nb l ↔ nb ≤ i ∧ i < nb + l.length
  | [], nb, i => by simp [news]
  | b :: l, nb, i => by
    simp only [news, List.mem_cons, news_mem l, List.length_cons]
    omega

/-- Two steps of which either may go first. -/
structure Apart (all : List Oper) (x y : Rec) : Prop where
  xy : ∀ d, x.o.dst = some d → d ∉ y.rT all
  yx : ∀ d, y.o.dst = some d → d ∉ x.rT all
  dd : ∀ d, x.o.dst = some d → y.o.dst ≠ some d
  bxy : ∀ i ∈ x.wB, i ∉ y.d.rd ++ y.wB
  byx : ∀ i ∈ y.wB, i ∉ x.d.rd ++ x.wB

theorem conf_apart {x y : Rec} (h : conf all x y = false) : Apart all x y := by
  simp only [conf, Bool.or_eq_false_iff] at h
  obtain ⟨⟨⟨⟨h1, h2⟩, h3⟩, h4⟩, h5⟩ := h
  refine ⟨fun d hd hm => ?_, fun d hd hm => ?_, fun d hd he => ?_, anyMem_false h4, anyMem_false h5⟩
  · rw [hd] at h1; simp only [optMem] at h1; rw [memB_iff.2 hm] at h1; cases h1
  · rw [hd] at h2; simp only [optMem] at h2; rw [memB_iff.2 hm] at h2; cases h2
  · rw [hd, he] at h3; simp [optEq] at h3

theorem go_τ {r : Rec} {s : AS} {t : Nat} (h : ∀ d, r.o.dst = some d → d ≠ t) : (r.go s).τ t = s.τ t := by
  unfold Rec.go updτ
  cases hd : r.o.dst with
  | none => rfl
  | some d => simp [Ne.symm (h d hd)]

theorem nwG_none {g : Nat → Option Blk} : ∀ (l : List Blk) (nb k : Nat), (k < nb ∨ nb + l.length ≤ k) → nwG g nb l k = g k
  | [], _, _, _ => rfl
  | b :: l, nb, k, h => by
    simp only [nwG]
    simp only [List.length_cons] at h
    rw [nwG_none l (nb + 1) k (by omega), if_neg (by omega)]

theorem go_g {r : Rec} {s : AS} {i : Nat} (h : i ∉ r.wB) : (r.go s).g i = s.g i := by
  unfold Rec.wB at h
  rw [List.mem_append, news_mem, keys_eq] at h
  unfold Rec.go
  simp only
  rw [nwG_none _ _ _ (by omega), wrG_none]
  intro x hx e
  exact h (.inl (by rw [← e]; exact List.mem_map_of_mem hx))

theorem Val.loc {r : Rec} {s s' : AS} (h : Val P S z all r s) (ht : ∀ t ∈ r.rT all, s'.τ t = s.τ t) (hg : ∀ i ∈ r.d.rd ++ keys r.d.wr, s'.g i = s.g i) : Val P S z all r s' :=
  stepD_loc h ht hg

theorem Apart.back {x y : Rec} (h : Apart all x y) {s : AS} (hv : Val P S z all y (x.go s)) : Val P S z all y s := by
  refine hv.loc (fun t ht => (go_τ fun d hd e => h.xy d hd (e ▸ ht)).symm) fun i hi => (go_g fun hx => h.bxy i hx ?_).symm
  rw [List.mem_append] at hi ⊢
  rcases hi with hi | hi
  · exact .inl hi
  · exact .inr (by unfold Rec.wB; rw [List.mem_append]; exact .inl hi)

theorem Apart.fore {x y : Rec} (h : Apart all x y) {s : AS} (hv : Val P S z all x s) : Val P S z all x (y.go s) := by
  refine hv.loc (fun t ht => go_τ fun d hd e => h.yx d hd (e ▸ ht)) fun i hi => go_g fun hy => h.byx i hy ?_
  rw [List.mem_append] at hi ⊢
  rcases hi with hi | hi
  · exact .inl hi
  · exact .inr (by unfold Rec.wB; rw [List.mem_append]; exact .inl hi)

theorem wrG_congr {g g' : Nat → Option Blk} : ∀ (l : List (Nat × Option Blk)) (k : Nat), (k ∈ l.map (·.1) ∨ g k = g' k) → wrG g l k = wrG g' l k
  | [], k, h => by
    rcases h with h | h
    · simp at h
    · exact h
  | (i, s) :: l, k, h => by
    simp only [wrG]
    refine wrG_congr l k ?_
    simp only [List.map_cons, List.mem_cons] at h
    by_cases hk : k = i
    · exact .inr (by simp [hk])
    · rcases h with (h | h) | h
      · exact absurd h hk
      · exact .inl h
      · exact .inr (by simp [hk, h])

theorem nwG_congr {g g' : Nat → Option Blk} : ∀ (l : List Blk) (nb k : Nat), ((nb ≤ k ∧ k < nb + l.length) ∨ g k = g' k) → nwG g nb l k = nwG g' nb l k
  | [], nb, k, h => by
    rcases h with h | h
    · simp at h; omega
    · exact h
  | b :: l, nb, k, h => by
    simp only [nwG]
    refine nwG_congr l (nb + 1) k ?_
    simp only [List.length_cons] at h
    by_cases hk : k = nb
    · exact .inr (by simp [hk])
    · rcases h with h | h
      · exact .inl (by omega)
      · exact .inr (by simp [hk, h])

theorem go_mem {r : Rec} {s s' : AS} {i : Nat} (h : i ∈ r.wB) : (r.go s).g i = (r.go s').g i := by
  unfold Rec.wB at h
  rw [List.mem_append, news_mem, keys_eq] at h
  unfold Rec.go
  simp only
  rcases h with h | h
  · exact nwG_congr _ _ _ (.inr (wrG_congr _ _ (.inl h)))
  · exact nwG_congr _ _ _ (.inl h)

theorem Apart.comm {x y : Rec} (h : Apart all x y) (s : AS) : x.go (y.go s) = y.go (x.go s) := by
  have hτ : (x.go (y.go s)).τ = (y.go (x.go s)).τ := by
    funext t
    unfold Rec.go updτ
    cases hx : x.o.dst with
    | none => cases hy : y.o.dst <;> rfl
    | some d =>
      cases hy : y.o.dst with
      | none => rfl
      | some e =>
        have hne : d ≠ e := fun he => h.dd d hx (by rw [hy, he])
        simp only
        by_cases h1 : t = d
        · by_cases h2 : t = e
          · exact absurd (h1.symm.trans h2) hne
          · simp [h1, hne]
        · by_cases h2 : t = e
          · simp [h2, Ne.symm hne]
          · simp [h1, h2]
  have hg : (x.go (y.go s)).g = (y.go (x.go s)).g := by
    funext i
    by_cases hx : i ∈ x.wB
    · have hy : i ∉ y.wB := fun hy => h.byx i hy (by rw [List.mem_append]; exact .inr hx)
      rw [go_g hy, go_mem (s' := s) hx]
    · by_cases hy : i ∈ y.wB
      · rw [go_g hx, go_mem (s' := x.go s) hy]
      · rw [go_g hx, go_g hy, go_g hy, go_g hx]
  cases h1 : x.go (y.go s)
  cases h2 : y.go (x.go s)
  rw [h1, h2] at hτ hg
  simp only at hτ hg
  rw [hτ, hg]

/-- One step taken ahead of those that it is apart from. -/
theorem chain_front {r : Rec} {B : List Rec} : ∀ {A : List Rec} {s : AS}, chain P S z all (A ++ r :: B) s → (∀ x ∈ A, Apart all x r) →
    Val P S z all r s ∧ chain P S z all (A ++ B) (r.go s) ∧ fin (A ++ r :: B) s = fin (A ++ B) (r.go s)
  | [], s, h, _ => ⟨h.1, h.2, rfl⟩
  | x :: A, s, h, ha => by
    obtain ⟨h1, h2⟩ := h
    obtain ⟨g1, g2, g3⟩ := chain_front h2 fun y hy => ha y (by simp [hy])
    have hx := ha x (by simp)
    refine ⟨hx.back g1, ⟨hx.fore h1, ?_⟩, ?_⟩
    · show chain P S z all (A ++ B) (x.go (r.go s))
      rw [hx.comm s]
      exact g2
    · show fin (A ++ r :: B) (x.go s) = fin (A ++ B) (x.go (r.go s))
      rw [g3, hx.comm s]

end
end Go.Lr

/- The local evaluator: a region that draws its order, whatever the order. -/
namespace Go.Lr
open Go.RowKit

/-- What a state names lies below its bound. -/
structure StOK (s : St) : Prop where
  okT : ∀ t, (getT s.tm t).ok (below s.nb) = true
  okM : ∀ i b, getM s.mem i = some b → i < s.nb ∧ okL (below s.nb) b.cells = true
  uq : uniq s.mem

theorem StOK.okM' {s : St} (h : StOK s) : ∀ i c, getM s.mem i = some c → below s.nb i = true ∧ okL (below s.nb) c.cells = true :=
  fun i c hc => ⟨by have := (h.okM i c hc).1; simpa [below] using this, (h.okM i c hc).2⟩

theorem StOK.free {s : St} (h : StOK s) {i : Nat} (hi : s.nb ≤ i) : getM s.mem i = none := by
  cases hc : getM s.mem i with
  | none => rfl
  | some b => have := (h.okM i b hc).1; omega

theorem StOK.get {s : St} (h : StOK s) {d : Dl} (hd : OkD (below s.nb) (getM s.mem) s.nb d) : getM (newAll (putAll s.mem d.wr) s.nb d.nw) = nwG (wrG (getM s.mem) d.wr) s.nb d.nw := by
  funext k
  rw [getM_newAll]
  congr 1
  funext j
  exact getM_putAll d.wr s.mem h.uq hd.live hd.nd j

/-- The state behind an operation is in order. -/
theorem StOK.app {s s1 : St} (h : StOK s) {d : Dl} {dst : Option Tmp} (hd : OkD (below s.nb) (getM s.mem) s.nb d) (h1 : s1.nb = s.nb + d.nw.length) (h2 : s1.mem = newAll (putAll s.mem d.wr) s.nb d.nw)
    (h3 : getT s1.tm = updτ (getT s.tm) dst d.val) : StOK s1 := by
  have hmono : ∀ i, below s.nb i = true → below s1.nb i = true := fun i hi => by simp only [below, decide_eq_true_eq] at hi ⊢; omega
  have hpn : ∀ i, pn (below s.nb) s.nb d.nw.length i = true → below s1.nb i = true := fun i hi => by rw [h1]; exact below_pn hi
  refine ⟨fun t => ?_, fun i b hb => ?_, ?_⟩
  · rw [h3]
    unfold updτ
    cases dst with
    | none => exact LV.ok_mono hmono (h.okT t)
    | some e =>
      by_cases ht : t = e
      · simp only [ht, if_true]; exact LV.ok_mono hpn hd.val
      · simp only [ht, if_false]; exact LV.ok_mono hmono (h.okT t)
  · rw [h2, h.get hd] at hb
    rcases nwG_mem _ _ _ _ hb with hb | ⟨g1, g2, g3⟩
    · rcases wrG_mem _ _ _ hb with hb | ⟨x, hx, e1, e2⟩
      · exact ⟨by have := (h.okM i b hb).1; omega, okL_mono hmono (h.okM i b hb).2⟩
      · obtain ⟨c, hc⟩ := Option.isSome_iff_exists.1 (hd.live x hx)
        rw [e1] at hc
        exact ⟨by have := (h.okM i c hc).1; omega, okL_mono hpn (hd.wr x hx b e2)⟩
    · exact ⟨by omega, okL_mono hpn (okBs_iff.1 hd.nw b g3)⟩
  · rw [h2]
    refine uniq_newAll _ _ _ (uniq_putAll _ _ h.uq) fun i hi => ?_
    rw [getM_putAll d.wr s.mem h.uq hd.live hd.nd i, wrG_none]
    · exact h.free hi
    · intro x hx e
      have := hd.live x hx
      rw [e, h.free hi] at this
      cases this

section
variable {P : Program} {S : FuncId → Option SumK} {z : Md} {all : List Oper}

def St.as (s : St) : AS := ⟨getT s.tm, getM s.mem⟩

/-- Numbers of new blocks: one after the other. -/
def ranged : Nat → List Rec → Nat → Prop
  | n, [], m => n ≤ m
  | n, r :: l, m => n ≤ r.nb ∧ ranged (r.nb + r.d.nw.length) l m

/-- The pass in the text's order. -/
theorem drawSeq_spec : ∀ {l : List Oper} {s : St} {acc : List Rec} {s' : St} {acc' : List Rec}, drawSeq P S z all l s acc = some (s', acc') → s.sz ≤ 60000 → StOK s →
    ∃ recs : List Rec, acc' = recs.reverse ++ acc ∧ recs.map (·.o) = l ∧ chain P S z all recs s.as ∧ fin recs s.as = s'.as ∧ ranged s.nb recs s'.nb ∧
      (∀ r ∈ recs, ∀ d, r.o.dst = some d → d < s.sz) ∧ s'.sz = s.sz ∧ StOK s' ∧ (Good s' → Good s ∧ ∀ r ∈ recs, (∀ c ∈ r.d.cs, c.1 = c.2) ∧ (∀ c ∈ r.gcs, c.1 = c.2))
  | [], s, acc, s', acc', h, _, hs => by
    simp only [drawSeq] at h
    cases h
    exact ⟨[], by simp, rfl, trivial, rfl, Nat.le_refl _, by simp, rfl, hs, fun hg => ⟨hg, by simp⟩⟩
  | o :: l, s, acc, s', acc', h, hsz, hs => by
    simp only [drawSeq] at h
    generalize decs z o s.dec = q at h
    obtain ⟨gd, pd, dec⟩ := q
    simp only at h
    split at h
    · rename_i d cs hd
      obtain ⟨s1, h1, h2, h3, h4, h5, h6, h7, _⟩ := appK_spec (a := { tmps := Array.replicate s.sz undef, defers := [] }) (by simp) hsz h
      have hok := stepD_ok (fun t => hs.okT t) hs.okM' hd
      have hs1 : StOK s1 := hs.app hok h5 h6 h7.1
      have has : s1.as = (Rec.mk o gd pd s.nb cs d).go s.as := by
        unfold St.as Rec.go
        simp only [h6, h7.1, hs.get hok]
      obtain ⟨recs, e1, e2, e3, e4, e5, e6, e7, e8, e9⟩ := drawSeq_spec h1 (by rw [h4]; exact hsz) hs1
      refine ⟨⟨o, gd, pd, s.nb, cs, d⟩ :: recs, by rw [e1]; simp, by simp [e2], ⟨hd, by rw [← has]; exact e3⟩, by rw [← e4, has]; rfl, ⟨Nat.le_refl _, by rw [← h5]; exact e5⟩, ?_, e7.trans h4, e8, fun hg => ?_⟩
      · intro r hr d' hd'
        rcases List.mem_cons.1 hr with rfl | hr
        · exact h7.2 d' hd'
        · have := e6 r hr d' hd'; rw [h4] at this; exact this
      · obtain ⟨g1, g2⟩ := e9 hg
        obtain ⟨c1, c2, c3⟩ := h2 g1
        refine ⟨c3, fun r hr => ?_⟩
        rcases List.mem_cons.1 hr with rfl | hr
        · exact ⟨c1, c2⟩
        · exact g2 r hr
    · cases h

theorem revR_eq : ∀ (l acc : List Rec), revR l acc = l.reverse ++ acc
  | [], _ => rfl
  | r :: l, acc => by simp [revR, revR_eq l]

-- what must go ahead of what
theorem preMask_bit {m : List Nat} : ∀ {l : List Edge} {x : Nat}, (preMask m l).testBit x = true → ∃ e ∈ l, Region.binds .any e = true ∧ (e.on = x ∨ (m.getD e.on 0).testBit x = true)
  | [], x, h => by simp [preMask] at h
  | e :: l, x, h => by
    simp only [preMask] at h
    split at h
    · rename_i hb
      simp only [Nat.testBit_or, Bool.or_eq_true, Nat.one_shiftLeft, Nat.testBit_two_pow, decide_eq_true_eq] at h
      rcases h with (h | h) | h
      · exact ⟨e, by simp, hb, .inl h⟩
      · exact ⟨e, by simp, hb, .inr h⟩
      · obtain ⟨e', h1, h2, h3⟩ := preMask_bit h
        exact ⟨e', by simp [h1], h2, h3⟩
    · obtain ⟨e', h1, h2, h3⟩ := preMask_bit h
      exact ⟨e', by simp [h1], h2, h3⟩

theorem masksOf_pre : ∀ (l : List Oper) (acc : List Nat), ∃ m, masksOf l acc = acc ++ m ∧ m.length = l.length
  | [], acc => ⟨[], by simp [masksOf], rfl⟩
  | o :: l, acc => by
    obtain ⟨m, h1, h2⟩ := masksOf_pre l (acc ++ [preMask acc o.after.toList])
    exact ⟨preMask acc o.after.toList :: m, by simp [masksOf, h1], by simp [h2]⟩

theorem masksOf_at : ∀ (l : List Oper) (acc : List Nat) (j : Nat) (o : Oper), l[j]? = some o → (masksOf l acc).getD (acc.length + j) 0 = preMask ((masksOf l acc).take (acc.length + j)) o.after.toList
  | [], acc, j, o, h => by simp at h
  | o' :: l, acc, 0, o, h => by
    simp only [List.getElem?_cons_zero, Option.some.injEq] at h
    subst h
    obtain ⟨m, h1, _⟩ := masksOf_pre l (acc ++ [preMask acc o'.after.toList])
    simp only [masksOf, h1]
    simp
  | o' :: l, acc, j + 1, o, h => by
    have := masksOf_at l (acc ++ [preMask acc o'.after.toList]) j o (by simpa using h)
    simp only [masksOf]
    simp only [List.length_append, List.length_cons, List.length_nil] at this
    rw [show acc.length + (j + 1) = acc.length + (0 + 1) + j by omega]
    exact this

theorem edgesDown_spec : ∀ {l : List Edge} {j : Nat}, edgesDown j l = true → ∀ e ∈ l, Region.binds .any e = true → e.on < j
  | [], j, _ => by simp
  | e :: l, j, h => by
    simp only [edgesDown] at h
    intro e' he' hb
    rcases List.mem_cons.1 he' with rfl | he'
    · rw [hb] at h
      simp only [nblt] at h
      split at h
      · rename_i hh; simpa using hh
      · cases h
    · split at h
      · split at h
        · exact edgesDown_spec h e' he' hb
        · cases h
      · exact edgesDown_spec h e' he' hb

theorem opsDown_spec : ∀ {l : List Oper} {j : Nat}, opsDown j l = true → ∀ k o, l[k]? = some o → ∀ e ∈ o.after.toList, Region.binds .any e = true → e.on < j + k
  | [], j, _, k, o, h => by simp at h
  | o' :: l, j, h, k, o, hk => by
    simp only [opsDown] at h
    split at h
    · rename_i hh
      cases k with
      | zero =>
        simp only [List.getElem?_cons_zero, Option.some.injEq] at hk
        subst hk
        exact edgesDown_spec hh
      | succ k =>
        intro e he hb
        have := opsDown_spec h k o (by simpa using hk) e he hb
        omega
    · cases h

/-- What stands in an operation's mask has been listed when the operation is ready. -/
theorem mask_listed {ops : List Oper} (hd : opsDown 0 ops = true) (L : Nat → Prop) (hL : ∀ k o, ops[k]? = some o → L k → ∀ e ∈ o.after.toList, Region.binds .any e = true → L e.on) :
    ∀ (j : Nat) (o : Oper), ops[j]? = some o → (∀ e ∈ o.after.toList, Region.binds .any e = true → L e.on) → ∀ x, ((masksOf ops []).getD j 0).testBit x = true → L x := by
  intro j
  induction j using Nat.strongRecOn with
  | _ j ih =>
    intro o ho hready x hx
    have hm := masksOf_at ops [] j o ho
    simp only [List.length_nil, Nat.zero_add] at hm
    rw [hm] at hx
    obtain ⟨e, he, hb, hor⟩ := preMask_bit hx
    have hlt : e.on < j := by have := opsDown_spec hd j o ho e he hb; omega
    rcases hor with h | h
    · rw [← h]; exact hready e he hb
    · have hget : ((masksOf ops []).take j).getD e.on 0 = (masksOf ops []).getD e.on 0 := by
        simp [List.getD, List.getElem?_take_of_lt hlt]
      rw [hget] at h
      have hjl : j < ops.length := (List.getElem?_eq_some_iff.1 ho).1
      have he' : ops[e.on]? = some ops[e.on] := List.getElem?_eq_getElem (by omega)
      exact ih e.on hlt _ he' (hL e.on _ he' (hready e he hb)) x h

theorem freeOf_spec {mask : Nat} {y : Rec} : ∀ {l : List Rec} {i : Nat}, freeOf all mask y i l = true → ∀ k x, l[k]? = some x → conf all x y = true → mask.testBit (i + k) = true
  | [], i, _, k, x, h => by simp at h
  | x' :: l, i, h, k, x, hk => by
    intro hc
    simp only [freeOf] at h
    cases k with
    | zero =>
      simp only [List.getElem?_cons_zero, Option.some.injEq] at hk
      subst hk
      rw [hc] at h
      simp only at h
      split at h
      · rename_i hh; simpa using hh
      · cases h
    | succ k =>
      have hrest : freeOf all mask y (i + 1) l = true := by
        split at h
        · split at h
          · exact h
          · cases h
        · exact h
      have := freeOf_spec hrest k x (by simpa using hk) hc
      rw [show i + (k + 1) = i + 1 + k by omega]
      exact this

theorem freeAll_spec {masks : List Nat} : ∀ {l : List Rec} {j : Nat} {done : List Rec}, freeAll all masks j done l = true → done.length = j →
    ∀ k y, l[k]? = some y → ∀ i x, i < j + k → (done ++ l)[i]? = some x → conf all x y = true → (masks.getD (j + k) 0).testBit i = true
  | [], j, done, _, _, k, y, h => by simp at h
  | y' :: l, j, done, h, hj, k, y, hk => by
    intro i x hi hx hc
    simp only [freeAll] at h
    split at h
    · rename_i hh
      cases k with
      | zero =>
        simp only [List.getElem?_cons_zero, Option.some.injEq] at hk
        subst hk
        rw [List.getElem?_append_left (by omega)] at hx
        have := freeOf_spec hh i x hx hc
        simpa using this
      | succ k =>
        have := freeAll_spec h (by simp [hj]) k y (by simpa using hk) i x (by omega) (by simpa using hx) hc
        rw [show j + (k + 1) = j + 1 + k by omega]
        exact this
    · cases h

end
end Go.Lr

/- The local evaluator: a region that draws its order, against the model. -/
namespace Go.Lr
open Go.RowKit

/-- An abstract state in the model. -/
structure RA (sz : Nat) (E : Env) (p : Nat → Bool) (s : AS) (a : Act) (w : World) : Prop where
  size : a.tmps.size = sz
  tm : ∀ t : Nat, a.tmps.getD t undef = (s.τ t).den E
  defers : a.defers = []
  okT : ∀ t, (s.τ t).ok p = true
  rel : Rel E s.g w
  okM : ∀ i c, s.g i = some c → p i = true ∧ okL p c.cells = true

structure ExtG (N : Nat) (w : World) (E : Env) (g : Nat → Option Blk) (w' : World) (E' : Env) (g' : Nat → Option Blk) : Prop where
  agree : ∀ i, i < N → E' i = E i
  os : w'.os = w.os
  tape : w'.tape = w.tape
  output : w'.output = w.output
  size : w.heap.size ≤ w'.heap.size
  frame : ∀ b, b < w.heap.size → (∀ i, (g i).isSome → (E i).1 ≠ b) → w'.heap[b]? = w.heap[b]?
  src : ∀ i, (g' i).isSome → w.heap.size ≤ (E' i).1 ∨ ∃ j, (g j).isSome ∧ (E' i).1 = (E j).1

theorem ExtG.refl (N : Nat) (w : World) (E : Env) (g : Nat → Option Blk) : ExtG N w E g w E g :=
  ⟨fun _ _ => rfl, rfl, rfl, rfl, Nat.le_refl _, fun _ _ _ => rfl, fun i hi => .inr ⟨i, hi, rfl⟩⟩

theorem ExtG.trans {N : Nat} {w w1 w2 : World} {E E1 E2 : Env} {g g1 g2 : Nat → Option Blk} (h : ExtG N w E g w1 E1 g1) (k : ExtG N w1 E1 g1 w2 E2 g2) : ExtG N w E g w2 E2 g2 := by
  refine ⟨fun i hi => (k.agree i hi).trans (h.agree i hi), k.os.trans h.os, k.tape.trans h.tape, k.output.trans h.output, Nat.le_trans h.size k.size, fun b hb hn => ?_, fun i hi => ?_⟩
  · rw [← h.frame b hb hn]
    refine k.frame b (Nat.lt_of_lt_of_le hb h.size) fun i hi he => ?_
    rcases h.src i hi with h1 | ⟨j, hj, h1⟩
    · omega
    · exact hn j hj (h1.symm.trans he)
  · rcases k.src i hi with h1 | ⟨j, hj, h1⟩
    · exact .inl (Nat.le_trans h.size h1)
    · rcases h.src j hj with h2 | ⟨q, hq, h2⟩
      · exact .inl (by omega)
      · exact .inr ⟨q, hq, h1.trans h2⟩

section
variable {P : Program} {S : FuncId → Option SumK} {z : Md} {ops : Array Oper}

/-- One step in the model, from whatever state it is valid in. -/
theorem step_ra (hB : BinOK P) (hS : AllOK P S) {N sz i : Nat} {E : Env} {p : Nat → Bool} {s : AS} {a : Act} {w : World} {r : Rec} (hi : ops[i]? = some r.o) (hra : RA sz E p s a w) (hv : Val P S z ops.toList r s)
    (hN : N ≤ r.nb) (hfree : ∀ i, r.nb ≤ i → i < r.nb + r.d.nw.length → p i = false) (hdst : ∀ d, r.o.dst = some d → d < sz) (hc : ∀ c ∈ r.d.cs, c.1 = c.2) (hc' : ∀ c ∈ r.gcs, c.1 = c.2)
    {K : Act → World → Prop} {Q : Exit → Act → World → Prop}
    (hk : ∀ E' a' w', RA sz E' (pn p r.nb r.d.nw.length) (r.go s) a' w' → ExtG N w E s.g w' E' (r.go s).g → K a' w') : wpOp P ops Q i K a w := by
  have hok : OkD p s.g r.nb r.d := stepD_ok hra.okT hra.okM hv
  refine stepD_wp hB hS hi hra.tm hra.okT hra.rel hra.okM hfree hv hc hc' fun E' w' hp => ?_
  have hag : ∀ i, p i = true → E' i = E i := by
    intro j hj
    refine hp.agree j ?_
    by_cases h : r.nb ≤ j ∧ j < r.nb + r.d.nw.length
    · rw [hfree j h.1 h.2] at hj; cases hj
    · omega
  refine hk E' _ w' ⟨?_, fun t => ?_, ?_, fun t => ?_, hp.rel, fun j c hj => ?_⟩ ⟨fun j hj => hp.agree j (.inl (by omega)), hp.os, hp.tape, hp.output, hp.size, hp.frame, fun j hj => ?_⟩
  · cases hd : r.o.dst <;> simp [Act.put, hra.size]
  · unfold Rec.go updτ
    cases hd : r.o.dst with
    | none =>
      simp only [Act.put]
      rw [hra.tm t, LV.den_congr hag (hra.okT t)]
    | some d =>
      simp only [Act.put]
      rw [getD_set a.tmps d t _ (by rw [hra.size]; exact hdst d hd)]
      by_cases ht : t = d
      · simp [ht]
      · rw [if_neg ht, if_neg ht, hra.tm t, LV.den_congr hag (hra.okT t)]
  · cases hd : r.o.dst <;> exact hra.defers
  · unfold Rec.go updτ
    cases hd : r.o.dst with
    | none => exact LV.ok_mono (fun _ h => pn_of h) (hra.okT t)
    | some d =>
      by_cases ht : t = d
      · simp only [ht, if_true]; exact hok.val
      · simp only [ht, if_false]; exact LV.ok_mono (fun _ h => pn_of h) (hra.okT t)
  · have hj' : nwG (wrG s.g r.d.wr) r.nb r.d.nw j = some c := hj
    rcases nwG_mem _ _ _ _ hj' with h | ⟨g1, g2, g3⟩
    · rcases wrG_mem _ _ _ h with h | ⟨x, hx, e1, e2⟩
      · exact ⟨pn_of (hra.okM j c h).1, okL_mono (fun _ h => pn_of h) (hra.okM j c h).2⟩
      · obtain ⟨c', hc''⟩ := Option.isSome_iff_exists.1 (hok.live x hx)
        rw [e1] at hc''
        exact ⟨pn_of (hra.okM j c' hc'').1, hok.wr x hx c e2⟩
    · exact ⟨by simp [pn, g1, g2], okBs_iff.1 hok.nw c g3⟩
  · obtain ⟨c, hjc⟩ := Option.isSome_iff_exists.1 hj
    have hj' : nwG (wrG s.g r.d.wr) r.nb r.d.nw j = some c := hjc
    rcases nwG_mem _ _ _ _ hj' with h | ⟨g1, g2, _⟩
    · have hlive : (s.g j).isSome := by
        rcases wrG_mem _ _ _ h with h | ⟨x, hx, e1, _⟩
        · simp [h]
        · rw [← e1]; exact hok.live x hx
      obtain ⟨c', hc''⟩ := Option.isSome_iff_exists.1 hlive
      exact .inr ⟨j, hlive, by rw [hag j (hra.okM j c' hc'').1]⟩
    · exact hp.fresh j g1 g2

/-- The operations still to come, each with its number: what is not listed. -/
structure Todo (recs : List Rec) (listed : Array Bool) (rem : List (Nat × Rec)) : Prop where
  mem : ∀ (i : Nat) (r : Rec), (i, r) ∈ rem ↔ recs[i]? = some r ∧ listed.getD i true = false
  sorted : rem.Pairwise fun x y => x.1 < y.1

theorem ranged_le : ∀ {l : List Rec} {n m : Nat}, ranged n l m → n ≤ m
  | [], n, m, h => h
  | r :: l, n, m, h => by have := ranged_le h.2; have := h.1; omega

theorem ranged_at : ∀ {l : List Rec} {n m : Nat}, ranged n l m → ∀ (i : Nat) (r : Rec), l[i]? = some r → n ≤ r.nb ∧ r.nb + r.d.nw.length ≤ m
  | [], n, m, _, i, r, h => by simp at h
  | r' :: l, n, m, h, i, r, hi => by
    cases i with
    | zero =>
      simp only [List.getElem?_cons_zero, Option.some.injEq] at hi
      subst hi
      exact ⟨h.1, ranged_le h.2⟩
    | succ i =>
      obtain ⟨h1, h2⟩ := ranged_at h.2 i r (by simpa using hi)
      exact ⟨by have := h.1; omega, h2⟩

theorem ranged_apart : ∀ {l : List Rec} {n m : Nat}, ranged n l m → ∀ (i j : Nat) (x y : Rec), i < j → l[i]? = some x → l[j]? = some y → x.nb + x.d.nw.length ≤ y.nb
  | [], n, m, _, i, j, x, y, _ => fun h => by simp at h
  | r' :: l, n, m, h, i, j, x, y, hij => by
    intro hi hj
    cases j with
    | zero => omega
    | succ j =>
      cases i with
      | zero =>
        simp only [List.getElem?_cons_zero, Option.some.injEq] at hi
        subst hi
        exact (ranged_at h.2 j y (by simpa using hj)).1
      | succ i => exact ranged_apart h.2 i j x y (by omega) (by simpa using hi) (by simpa using hj)

theorem split_at {rem : List (Nat × Rec)} {i : Nat} {r : Rec} (h : (i, r) ∈ rem) : ∃ A B, rem = A ++ (i, r) :: B := List.append_of_mem h

theorem draw_main (hB : BinOK P) (hS : AllOK P S) {N sz M : Nat} {recs : List Rec} (hrec : recs.map (·.o) = ops.toList) (hdown : opsDown 0 ops.toList = true)
    (hconf : ∀ (i j : Nat) (x y : Rec), i < j → recs[i]? = some x → recs[j]? = some y → conf ops.toList x y = true → ((masksOf ops.toList []).getD j 0).testBit i = true)
    (hrng : ranged N recs M) (hdst : ∀ r ∈ recs, ∀ d, r.o.dst = some d → d < sz) (hcs : ∀ r ∈ recs, (∀ c ∈ r.d.cs, c.1 = c.2) ∧ (∀ c ∈ r.gcs, c.1 = c.2)) {Q : Exit → Act → World → Prop} :
    ∀ (fuel : Nat) (rem : List (Nat × Rec)) (listed : Array Bool) (s : AS) (E : Env) (p : Nat → Bool) (a : Act) (w : World), rem.length = fuel → listed.size = ops.size → Todo recs listed rem →
      (∀ k o, ops[k]? = some o → listed.getD k true = true → ∀ e ∈ o.after.toList, Region.binds .any e = true → listed.getD e.on false = true) →
      chain P S z ops.toList (rem.map (·.2)) s → RA sz E p s a w → (∀ i, p i = true → i < M) → (∀ i, p i = true → ∀ x ∈ rem, ¬(x.2.nb ≤ i ∧ i < x.2.nb + x.2.d.nw.length)) →
      (∀ E' p' a' w', RA sz E' p' (fin (rem.map (·.2)) s) a' w' → (∀ i, p' i = true → i < M) → ExtG N w E s.g w' E' (fin (rem.map (·.2)) s).g → Q .normal a' w') →
      wpAny P .any ops Q fuel listed a w := by
  have hopsrec : ∀ (i : Nat) (r : Rec), recs[i]? = some r → ops[i]? = some r.o := by
    intro i r h
    have : (recs.map (·.o))[i]? = some r.o := by simp [h]
    rw [hrec] at this
    simpa using this
  have hlen : recs.length = ops.size := by have := congrArg List.length hrec; simpa using this
  -- an operation that is not listed, the first of them: ready
  have hready0 : ∀ (rem : List (Nat × Rec)) (listed : Array Bool), listed.size = ops.size → Todo recs listed rem → Region.ready .any ops listed = [] → rem = [] := by
    intro rem listed hls ht hr
    cases rem with
    | nil => rfl
    | cons x rem =>
      exfalso
      obtain ⟨i, r⟩ := x
      obtain ⟨h1, h2⟩ := (ht.mem i r).1 (by simp)
      have hops := hopsrec i r h1
      have hi : i < ops.size := (Array.getElem?_eq_some_iff.1 hops).1
      have hmem : i ∈ Region.ready .any ops listed := by
        unfold Region.ready
        simp only [List.mem_filter, List.mem_range, hi, true_and, h2, Bool.not_false, hops, Option.map_some, Option.getD_some, Bool.true_and]
        rw [Array.all_eq_true]
        intro k hk
        by_cases hb : Region.binds .any r.o.after[k] = true
        · have hlt := opsDown_spec hdown i r.o (by simpa using hops) r.o.after[k] (by simp) hb
          simp only [Nat.zero_add] at hlt
          have hlst : listed.getD r.o.after[k].on false = true := by
            have hsz : r.o.after[k].on < listed.size := by omega
            cases hh : listed.getD r.o.after[k].on true with
            | true =>
              have e1 : listed.getD r.o.after[k].on false = listed.getD r.o.after[k].on true := by simp [hsz]
              rw [e1]; exact hh
            | false =>
              exfalso
              have hql : r.o.after[k].on < recs.length := by omega
              obtain ⟨q, hq⟩ : ∃ q, recs[r.o.after[k].on]? = some q := ⟨_, List.getElem?_eq_getElem hql⟩
              have := (ht.mem _ q).2 ⟨hq, hh⟩
              rcases List.mem_cons.1 this with he | he
              · injection he with e1 _; omega
              · have := List.rel_of_pairwise_cons ht.sorted he
                simp only at this
                omega
          simp [hlst]
        · simp [hb]
      rw [hr] at hmem
      cases hmem
  intro fuel
  induction fuel with
  | zero =>
    intro rem listed s E p a w hf hls ht hcl hch hra hpM hpf hQ
    have hrem : rem = [] := List.length_eq_zero_iff.1 hf
    subst hrem
    refine ⟨?_, hQ E p a w hra hpM (.refl _ _ _ _)⟩
    cases hr : Region.ready .any ops listed with
    | nil => rfl
    | cons i l =>
      exfalso
      have hi : i ∈ Region.ready .any ops listed := by rw [hr]; simp
      unfold Region.ready at hi
      simp only [List.mem_filter, List.mem_range, Bool.and_eq_true, Bool.not_eq_true'] at hi
      have hql : i < recs.length := by omega
      obtain ⟨q, hq⟩ : ∃ q, recs[i]? = some q := ⟨_, List.getElem?_eq_getElem hql⟩
      have := (ht.mem i q).2 ⟨hq, hi.2.1⟩
      cases this
  | succ fuel ih =>
    intro rem listed s E p a w hf hls ht hcl hch hra hpM hpf hQ
    refine ⟨fun hr => ?_, fun i hi => ?_⟩
    · have := hready0 rem listed hls ht hr
      rw [this] at hf
      simp at hf
    · unfold Region.ready at hi
      simp only [List.mem_filter, List.mem_range, Bool.and_eq_true, Bool.not_eq_true'] at hi
      obtain ⟨hilt, hnl, haft⟩ := hi
      have hql : i < recs.length := by omega
      obtain ⟨r, hr⟩ : ∃ q, recs[i]? = some q := ⟨_, List.getElem?_eq_getElem hql⟩
      have hops := hopsrec i r hr
      have hin : (i, r) ∈ rem := (ht.mem i r).2 ⟨hr, hnl⟩
      have hedges : ∀ e ∈ r.o.after.toList, Region.binds .any e = true → listed.getD e.on false = true := by
        intro e he hb
        rw [hops] at haft
        simp only [Option.map_some, Option.getD_some] at haft
        rw [Array.all_eq_true'] at haft
        have := haft e (by simpa using he)
        simpa [hb] using this
      obtain ⟨A, B, rfl⟩ := split_at hin
      have hsorted := ht.sorted
      rw [List.pairwise_append] at hsorted
      obtain ⟨_, hsB, hAB⟩ := hsorted
      have hapart : ∀ x ∈ A.map (·.2), Apart ops.toList x r := by
        intro x hx
        obtain ⟨⟨k, x'⟩, hk, rfl⟩ := List.mem_map.1 hx
        obtain ⟨g1, g2⟩ := (ht.mem k x').1 (by simp [hk])
        have hki : k < i := hAB (k, x') hk (i, r) (by simp)
        refine conf_apart ?_
        cases hc : conf ops.toList x' r with
        | false => rfl
        | true =>
          exfalso
          have hbit := hconf k i x' r hki g1 hr hc
          have := mask_listed hdown (fun q => listed.getD q true = true) (fun q o hq hl e he hb => by
            have hx := hcl q o (by simpa using hq) hl e he hb
            have hsz : e.on < listed.size := by
              by_cases hh : e.on < listed.size
              · exact hh
              · simp [Array.getD, hh] at hx
            simpa [hsz] using hx) i r.o (by simpa using hops) (fun e he hb => by
            have hx := hedges e he hb
            have hsz : e.on < listed.size := by
              by_cases hh : e.on < listed.size
              · exact hh
              · simp [Array.getD, hh] at hx
            simpa [hsz] using hx) k hbit
          rw [g2] at this
          cases this
      rw [List.map_append, List.map_cons] at hch hQ
      obtain ⟨c1, c2, c3⟩ := chain_front hch hapart
      have hrin : r ∈ recs := List.mem_of_getElem? hr
      refine step_ra hB hS (N := N) hops hra c1 (ranged_at hrng i r hr).1 (fun j h1 h2 => ?_) (hdst r hrin) (hcs r hrin).1 (hcs r hrin).2 fun E' a' w' hra' hext => ?_
      · cases hpj : p j with
        | false => rfl
        | true => exact absurd ⟨h1, h2⟩ (hpf j hpj (i, r) (by simp))
      · have hsz' : (listed.setIfInBounds i true).size = ops.size := by simp [hls]
        have hget : ∀ q d, (listed.setIfInBounds i true).getD q d = if q = i then true else listed.getD q d := by
          intro q d
          by_cases hq : q = i
          · subst hq
            have : q < listed.size := by omega
            simp [this]
          · rw [if_neg hq]
            simp [Array.getElem?_setIfInBounds_ne (Ne.symm hq)]
        refine ih (A ++ B) (listed.setIfInBounds i true) (r.go s) E' _ a' w' (by simp at hf ⊢; omega) hsz' ⟨fun j x => ?_, ?_⟩ (fun k o hk hl e he hb => ?_) (by rw [List.map_append]; exact c2) hra' (fun j hj => ?_) (fun j hj x hx => ?_) ?_
        · rw [hget j true]
          have hm := ht.mem j x
          by_cases hji : j = i
          · subst hji
            rw [if_pos rfl]
            refine ⟨fun h => ?_, fun h => absurd h.2 (by simp)⟩
            exfalso
            rcases List.mem_append.1 h with h | h
            · have := hAB (j, x) h (j, r) (by simp)
              simp at this
            · have := List.rel_of_pairwise_cons hsB h
              simp at this
          · rw [if_neg hji, ← hm]
            constructor
            · intro h
              rcases List.mem_append.1 h with h | h
              · simp [h]
              · simp [h]
            · intro h
              rcases List.mem_append.1 h with h | h
              · simp [h]
              · rcases List.mem_cons.1 h with h | h
                · injection h with e1 _; exact absurd e1 hji
                · simp [h]
        · refine ht.sorted.sublist ?_
          exact List.Sublist.append_left (List.sublist_cons_self _ _) A
        · rw [hget] at hl ⊢
          by_cases hki : k = i
          · subst hki
            rw [hops] at hk
            cases hk
            have := hedges e he hb
            by_cases he' : e.on = k <;> simp [he', this]
          · rw [if_neg hki] at hl
            have := hcl k o hk hl e he hb
            by_cases he' : e.on = i <;> simp [he', this]
        · simp only [pn, Bool.or_eq_true, Bool.and_eq_true, decide_eq_true_eq] at hj
          rcases hj with hj | hj
          · exact hpM j hj
          · have := (ranged_at hrng i r hr).2; omega
        · simp only [pn, Bool.or_eq_true, Bool.and_eq_true, decide_eq_true_eq] at hj
          have hxin : x ∈ A ++ (i, r) :: B := by
            rcases List.mem_append.1 hx with h | h
            · simp [h]
            · simp [h]
          rcases hj with hj | hj
          · exact hpf j hj x hxin
          · intro hcon
            obtain ⟨k, y⟩ := x
            obtain ⟨g1, _⟩ := (ht.mem k y).1 hxin
            have hne : k ≠ i := by
              rintro rfl
              rcases List.mem_append.1 hx with h | h
              · have := hAB (k, y) h (k, r) (by simp); simp at this
              · have := List.rel_of_pairwise_cons hsB h; simp at this
            rcases Nat.lt_or_gt_of_ne hne with hlt | hlt
            · have := ranged_apart hrng k i y r hlt g1 hr; simp only at hcon; omega
            · have := ranged_apart hrng i k r y hlt hr g1; simp only at hcon; omega
        · intro E'' p'' a'' w'' h1 h2 h3
          rw [List.map_append] at h1 h3
          rw [← c3] at h1 h3
          exact hQ E'' p'' a'' w'' h1 h2 (hext.trans h3)

end
end Go.Lr

/- The local evaluator: whole bodies, loops, calls walked into, against the model. -/
namespace Go.Lr
open Go.RowKit

def Ex.to : Ex → Exit
  | .normal => .normal
  | .exit id => .exit id
  | .ret => .ret

section
variable {P : Program} {S : FuncId → Option SumK} {z : Md}

theorem R.st {E : Env} {s : St} {a : Act} {w : World} (h : R E s a w) : StOK s := ⟨h.okT, h.m.okM, h.m.uq⟩

theorem drawRun_wp (hB : BinOK P) (hS : AllOK P S) (hmix : P.follows .mixedOrders = true) {ops : Array Oper} {s s' : St} (h : drawRun P S z ops.toList s = some s') (hsz : s.sz ≤ 60000) (hs : StOK s) :
    (Good s' → Good s) ∧ StOK s' ∧ s'.sz = s.sz ∧ s.nb ≤ s'.nb ∧ (Good s' → ∀ (id : Nat) (E : Env) (a : Act) (w : World), R E s a w → ∀ Q : Exit → Act → World → Prop, (∀ E' a' w', R E' s' a' w' → Ext w E s w' E' s' → Q .normal a' w') →
      (Code.region id ops true).wp P Q a w) := by
  unfold drawRun at h
  split at h
  · rename_i s1 acc hd
    split at h
    · rename_i hfree hdown
      cases h
      obtain ⟨recs, e1, e2, e3, e4, e5, e6, e7, e8, e9⟩ := drawSeq_spec hd hsz hs
      refine ⟨fun hg => (e9 hg).1, e8, e7, ranged_le e5, fun hg id E a w hr Q hQ => ?_⟩
      obtain ⟨g1, g2⟩ := e9 hg
      refine wp_region_any hmix ?_
      have hrev : revR acc [] = recs := by rw [revR_eq, e1]; simp
      rw [hrev] at hfree
      have hlen : recs.length = ops.size := by have := congrArg List.length e2; simpa using this
      have hrem : ((List.range recs.length).zip recs).map (·.2) = recs := by
        rw [List.map_snd_zip]; simp
      refine draw_main (z := z) (N := s.nb) (sz := s.sz) (M := s'.nb) hB hS e2 hdown (fun i j x y hij hx hy hc => ?_) e5 e6 g2 ops.size ((List.range recs.length).zip recs) (Array.replicate ops.size false) s.as E (below s.nb) a { w with drawn := w.drawn + 1 } ?_ ?_ ⟨fun i r => ?_, ?_⟩ ?_ ?_ ?_ ?_ ?_ ?_
      · have := freeAll_spec hfree rfl j y hy i x (by omega) (by simpa using hx) hc
        simpa using this
      · simp [hlen]
      · simp
      · constructor
        · intro h
          obtain ⟨k, hk⟩ := List.mem_iff_getElem?.1 h
          rw [List.getElem?_zip_eq_some] at hk
          obtain ⟨k1, k2⟩ := hk
          have hkl : k < recs.length := (List.getElem?_eq_some_iff.1 k2).1
          rw [List.getElem?_range hkl] at k1
          cases k1
          refine ⟨k2, ?_⟩
          have : i < ops.size := by omega
          simp [this]
        · intro h
          obtain ⟨h1, _⟩ := h
          have hkl : i < recs.length := (List.getElem?_eq_some_iff.1 h1).1
          refine List.mem_iff_getElem?.2 ⟨i, ?_⟩
          rw [List.getElem?_zip_eq_some]
          exact ⟨List.getElem?_range hkl, h1⟩
      · have hp : (((List.range recs.length).zip recs).map (·.1)).Pairwise (· < ·) := by
          rw [List.map_fst_zip (by simp)]
          exact List.pairwise_lt_range
        exact (List.pairwise_map.1 hp)
      · intro k o hk hl
        exfalso
        have : k < ops.size := (Array.getElem?_eq_some_iff.1 hk).1
        simp [this] at hl
      · rw [hrem]; exact e3
      · exact ⟨hr.size, hr.tm, hr.defers, hr.okT, ⟨fun i b hb => hr.m.rel.blk i b hb, hr.m.rel.inj⟩, hs.okM'⟩
      · intro i hi
        have := ranged_le e5
        simp only [below, decide_eq_true_eq] at hi
        omega
      · intro i hi x hx
        obtain ⟨k, r⟩ := x
        have hr' : r ∈ recs := (List.of_mem_zip hx).2
        obtain ⟨q, hq⟩ := List.mem_iff_getElem?.1 hr'
        have := (ranged_at e5 q r hq).1
        simp only [below, decide_eq_true_eq] at hi
        simp only
        omega
      · intro E' p' a' w' h1 h2 h3
        rw [hrem, e4] at h1 h3
        have hmono : ∀ i, p' i = true → below s'.nb i = true := fun i hi => by simpa [below] using h2 i hi
        refine hQ E' a' w' ⟨h1.size.trans e7.symm, by rw [e7]; exact hsz, h1.tm, h1.defers, e8.okT, ⟨h1.rel, e8.okM, e8.uq⟩⟩ ?_
        exact ⟨ranged_le e5, h3.agree, h3.os, h3.tape, h3.output, h3.size, h3.frame, h3.src⟩
    · cases h
  · cases h

-- results
def resSem (tmps : Array Value) : ResultVar → Sem Value
  | .tmp t => pure (tmps.getD t undef)
  | .cell a t => do loadVar t (← asAddr (tmps.getD a undef))

theorem results_eq (fn : Func) (tmps : Array Value) : results fn tmps = (do let vs ← fn.results.mapM (resSem tmps); pure (if h : vs.size = 1 then vs[0] else .tuple vs)) := by
  have : resSem tmps = (fun r => match r with
      | .tmp t => pure (tmps.getD t undef)
      | .cell a t => do loadVar t (← asAddr (tmps.getD a undef))) := by
    funext r
    cases r <;> rfl
  rw [this]
  rfl

theorem resVals_spec {E : Env} {s : St} {w : World} {tmps : Array Value} (hm : Rel E (getM s.mem) w) (hτ : ∀ t : Nat, tmps.getD t undef = (getT s.tm t).den E) : ∀ {rs : List ResultVar} {vs : List LV}, resVals P (getT s.tm) s.mem rs = some vs →
    (rs.mapM (resSem tmps)).run P w = .ok (vs.map (LV.den E)) w
  | [], vs, h => by simp only [resVals] at h; cases h; simp
  | r :: rs, vs, h => by
    simp only [resVals] at h
    split at h
    · rename_i v vs' hv hvs
      cases h
      have h1 : (resSem tmps r).run P w = .ok (v.den E) w := by
        cases r with
        | tmp t =>
          simp only [resVal, Option.some.injEq] at hv
          subst hv
          simp only [resSem, Sem.run_pure, hτ t]
        | cell a t =>
          simp only [resVal] at hv
          split at hv
          · rename_i d hd
            cases hv
            unfold loadD at hd
            split at hd
            · rename_i b o hb
              split at hd
              · rename_i k hk
                split at hd
                · rename_i x hx
                  cases hd
                  have := loadVar_spec (P := P) (hm.blk b k hk) hx
                  simp only [resSem, Sem.run_bind, hτ a, hb, den_ptr, asAddr, Sem.run_pure, Result.andThen_ok, this]
                  rfl
                · cases hd
              · cases hd
            · cases hd
          · cases hv
      simp only [List.mapM_cons, Sem.run_bind, h1, Result.andThen_ok, resVals_spec hm hτ hvs, Sem.run_pure, List.map_cons]
    · cases h

theorem oneVs_spec {E : Env} : ∀ {vs : List LV} {l : List V1}, oneVs vs = some l → vs.map (LV.den E) = l.map (V1.den E)
  | [], l, h => by simp only [oneVs] at h; cases h; rfl
  | .v x :: vs, l, h => by
    simp only [oneVs] at h
    split at h
    · rename_i r hr; cases h; simp [oneVs_spec hr, LV.den]
    · cases h
  | .tup _ :: vs, l, h => by simp [oneVs] at h

theorem resultsD_spec {E : Env} {s : St} {w : World} {tmps : Array Value} {fn : Func} {v : LV} (hm : Rel E (getM s.mem) w) (hτ : ∀ t : Nat, tmps.getD t undef = (getT s.tm t).den E)
    (h : resultsD P fn.results.toList (getT s.tm) s.mem = some v) : (results fn tmps).run P w = .ok (v.den E) w := by
  have key : ∀ vs, resVals P (getT s.tm) s.mem fn.results.toList = some vs → (results fn tmps).run P w = .ok (if h : (vs.map (LV.den E)).toArray.size = 1 then (vs.map (LV.den E)).toArray[0] else .tuple (vs.map (LV.den E)).toArray) w := by
    intro vs hvs
    have := resVals_spec (P := P) hm hτ hvs
    rw [results_eq, Array.mapM_eq_mapM_toList]
    simp only [Sem.run_bind, Sem.run_map]
    rw [this]
    simp only [Result.andThen_ok, Sem.run_pure]
  unfold resultsD at h
  split at h
  · rename_i u hu
    cases h
    rw [key _ hu]
    simp
  · rename_i vs hne hvs
    split at h
    · rename_i l hl
      cases h
      rw [key _ hvs]
      rw [dif_neg]
      · simp only [LV.den]
        rw [oneVs_spec hl]
      · intro h1
        have : vs.length = 1 := by simpa using h1
        match vs, this with
        | [x], _ => exact hne x rfl
    · cases h
  · cases h

theorem resVals_ok {p : Nat → Bool} {τ : Nat → LV} {m : Mem} (hτ : ∀ t, (τ t).ok p = true) (hg : ∀ i c, getM m i = some c → p i = true ∧ okL p c.cells = true) : ∀ {rs : List ResultVar} {vs : List LV}, resVals P τ m rs = some vs → ∀ v ∈ vs, v.ok p = true
  | [], vs, h => by simp only [resVals] at h; cases h; simp
  | r :: rs, vs, h => by
    simp only [resVals] at h
    split at h
    · rename_i v vs' hv hvs
      cases h
      simp only [List.mem_cons, forall_eq_or_imp]
      refine ⟨?_, resVals_ok hτ hg hvs⟩
      cases r with
      | tmp t => simp only [resVal, Option.some.injEq] at hv; subst hv; exact hτ t
      | cell a t =>
        simp only [resVal] at hv
        split at hv
        · rename_i d hd
          cases hv
          unfold loadD at hd
          split at hd
          · split at hd
            · rename_i k hk
              split at hd
              · rename_i x hx
                cases hd
                exact partV_ok hx (hg _ _ hk).2
              · cases hd
            · cases hd
          · cases hd
        · cases hv
    · cases h

theorem oneVs_ok {p : Nat → Bool} : ∀ {vs : List LV} {l : List V1}, oneVs vs = some l → (∀ v ∈ vs, v.ok p = true) → okVs p l = true
  | [], l, h, _ => by simp only [oneVs] at h; cases h; rfl
  | .v x :: vs, l, h, hv => by
    simp only [oneVs] at h
    split at h
    · rename_i r hr
      cases h
      rw [okVs_iff]
      simp only [List.mem_cons, forall_eq_or_imp]
      exact ⟨hv (.v x) (by simp), okVs_iff.1 (oneVs_ok hr fun v hm => hv v (by simp [hm]))⟩
    · cases h
  | .tup _ :: vs, l, h, _ => by simp [oneVs] at h

theorem resultsD_ok {p : Nat → Bool} {τ : Nat → LV} {m : Mem} {rs : List ResultVar} {v : LV} (hτ : ∀ t, (τ t).ok p = true) (hg : ∀ i c, getM m i = some c → p i = true ∧ okL p c.cells = true) (h : resultsD P rs τ m = some v) : v.ok p = true := by
  unfold resultsD at h
  split at h
  · rename_i u hu
    cases h
    exact resVals_ok hτ hg hu _ (by simp)
  · rename_i vs _ hvs
    split at h
    · rename_i l hl
      cases h
      exact oneVs_ok hl (resVals_ok hτ hg hvs)
    · cases h
  · cases h

-- a frame's first state
theorem argsTK_eq {β : Type} : ∀ (t : Tr) (i : Nat) (l : List LV) (k : Tr → β), argsTK t i l k = k (argsT t i l)
  | _, _, [], _ => rfl
  | t, i, v :: l, k => by simp only [argsTK, argsT, setTK_eq, argsTK_eq]

theorem getT_argsT : ∀ (l : List LV) (t : Tr) (i : Nat) (j : Nat), i + l.length < 65535 → getT (argsT t i l) j = if i ≤ j ∧ j < i + l.length then l.getD (j - i) undefL else getT t j
  | [], t, i, j, _ => by
    simp only [argsT, List.length_nil]
    rw [if_neg (by omega)]
  | v :: l, t, i, j, h => by
    simp only [List.length_cons] at h ⊢
    simp only [argsT]
    rw [getT_argsT l _ (i + 1) j (by omega), getT_setT 16 t i v j (by omega)]
    by_cases h1 : j = i
    · subst h1
      rw [if_neg (by omega), if_pos rfl, if_pos (by omega)]
      simp
    · by_cases h2 : i ≤ j ∧ j < i + (l.length + 1)
      · rw [if_pos (by omega), if_pos h2]
        rw [show j - i = (j - (i + 1)) + 1 by omega]
        simp
      · rw [if_neg (by omega), if_neg h1, if_neg h2]

end
end Go.Lr

/- The local evaluator is sound: what it tells of a body holds of the model's. -/
namespace Go.Lr
open Go.RowKit

theorem getM_dropM (nb : Nat) : ∀ (m : Mem) (i : Nat), getM (dropM nb m) i = if i < nb then getM m i else none
  | [], i => by simp [dropM, getM]
  | (j, b) :: m, i => by
    simp only [dropM, nblt]
    by_cases hj : j < nb
    · simp only [hj, decide_true]
      rw [getM_cons, getM_cons, getM_dropM nb m i]
      by_cases hi : i = j
      · subst hi; simp [hj]
      · simp [hi]
    · simp only [hj, decide_false]
      rw [getM_cons, getM_dropM nb m i]
      by_cases hi : i < nb
      · rw [if_pos hi, if_pos hi, if_neg (by omega)]
      · rw [if_neg hi, if_neg hi]

theorem uniq_dropM (nb : Nat) : ∀ (m : Mem), uniq m → uniq (dropM nb m)
  | [], _ => trivial
  | (j, b) :: m, h => by
    simp only [dropM]
    split
    · refine ⟨?_, uniq_dropM nb m h.2⟩
      rw [getM_dropM, h.1]
      simp
    · exact uniq_dropM nb m h.2

theorem backM_spec {β : Type} {y : Bool} {nb : Nat} {v : LV} {m : Mem} {k : Mem → β} {r : β} (h : backM y nb v m k = r) : ∃ m', k m' = r ∧ (uniq m → uniq m') ∧ ∀ i b, getM m' i = some b → getM m i = some b := by
  have hm : k m = r → ∃ m', k m' = r ∧ (uniq m → uniq m') ∧ ∀ i b, getM m' i = some b → getM m i = some b := fun h => ⟨m, h, id, fun _ _ h => h⟩
  unfold backM at h
  split at h
  · exact hm h
  · split at h
    · rw [forceL_eq] at h
      refine ⟨_, h, uniq_dropM nb m, fun i b hb => ?_⟩
      rw [getM_dropM] at hb
      split at hb
      · exact hb
      · cases hb
    · exact hm h

theorem Rel.sub {E : Env} {g g' : Nat → Option Blk} {w : World} (h : Rel E g w) (hs : ∀ i b, g' i = some b → g i = some b) : Rel E g' w := by
  have hsome : ∀ i, (g' i).isSome → (g i).isSome := by
    intro i hi
    obtain ⟨b, hb⟩ := Option.isSome_iff_exists.1 hi
    simp [hs i b hb]
  exact ⟨fun i b hb => h.blk i b (hs i b hb), fun i j hi hj he => h.inj i j (hsome i hi) (hsome j hj) he⟩

section
variable {P : Program} {S : FuncId → Option SumK} {z : Md}

def SC (P : Program) (S : FuncId → Option SumK) (z : Md) (n : Nat) : Prop :=
  ∀ (c : Code) (s : St) (out : Out) (s' : St), exec P S z n (.code c) s = some (out, s') → s.sz ≤ 60000 → StOK s →
    ∃ e, out = .ex e ∧ (Good s' → Good s) ∧ StOK s' ∧ s'.sz = s.sz ∧ s.nb ≤ s'.nb ∧
      (Good s' → ∀ (E : Env) (a : Act) (w : World), R E s a w → ∀ Q : Exit → Act → World → Prop, (∀ E' a' w', R E' s' a' w' → Ext w E s w' E' s' → Q e.to a' w') → c.wp P Q a w)

def SL (P : Program) (S : FuncId → Option SumK) (z : Md) (n : Nat) : Prop :=
  ∀ (c : Code) (s : St) (out : Out) (s' : St), exec P S z n (.code (.loop c)) s = some (out, s') → s.sz ≤ 60000 → StOK s →
    ∃ e m, out = .ex e ∧ (Good s' → Good s) ∧ StOK s' ∧ s'.sz = s.sz ∧ s.nb ≤ s'.nb ∧
      (Good s' → ∀ (E : Env) (a : Act) (w : World), R E s a w → ∀ Q : Exit → Act → World → Prop, (∀ E' a' w', R E' s' a' w' → Ext w E s w' E' s' → Q e.to a' w') → Code.rounds P c Q m a w)

def SO (P : Program) (S : FuncId → Option SumK) (z : Md) (n : Nat) : Prop :=
  ∀ (all l : List Oper) (s : St) (out : Out) (s' : St), exec P S z n (.ops all l) s = some (out, s') → s.sz ≤ 60000 → StOK s →
    out = .ex .normal ∧ (Good s' → Good s) ∧ StOK s' ∧ s'.sz = s.sz ∧ s.nb ≤ s'.nb ∧
      (Good s' → ∀ (ops : Array Oper) (k : Nat), ops.toList = all → all.drop k = l → ∀ (E : Env) (a : Act) (w : World), R E s a w → ∀ Q : Exit → Act → World → Prop,
        (∀ E' a' w', R E' s' a' w' → Ext w E s w' E' s' → Q .normal a' w') → wpOps P ops Q (List.range' k l.length) a w)

def SB (P : Program) (S : FuncId → Option SumK) (z : Md) (n : Nat) : Prop :=
  ∀ (f : FuncId) (args : List LV) (s : St) (out : Out) (s' : St), exec P S z n (.body f args) s = some (out, s') → (∀ i b, getM s.mem i = some b → i < s.nb ∧ okL (below s.nb) b.cells = true) → uniq s.mem →
    (∀ v ∈ args, v.ok (below s.nb) = true) →
    ∃ v, out = .val v ∧ (Good s' → Good s) ∧ s.nb ≤ s'.nb ∧ (∀ i b, getM s'.mem i = some b → i < s'.nb ∧ okL (below s'.nb) b.cells = true) ∧ uniq s'.mem ∧ v.ok (below s'.nb) = true ∧
      (∃ fn, P.funcs[f]? = some fn ∧ fn.body.isSome) ∧
      (Good s' → ∀ (E : Env) (w : World), MRel E s w → Calls P f (args.map (LV.den E)).toArray w fun e w' => ∃ E', e = .returned (v.den E') ∧ MRel E' s' w' ∧ Ext w E s w' E' s')

theorem below_mono {n m : Nat} (h : n ≤ m) : ∀ i, below n i = true → below m i = true := fun i hi => by
  simp only [below, decide_eq_true_eq] at hi ⊢
  omega

theorem body_same {n : Nat} {f : FuncId} {args : List LV} {s s2 : St} {out : Out} (h : exec P S z n (.body f args) s = some (out, s2)) : s2.sz = s.sz ∧ s2.tm = s.tm := by
  cases n with
  | zero => simp [exec] at h
  | succ n =>
    simp only [exec, step1, bodyStep] at h
    split at h
    · split at h
      · split at h
        · rw [argsTK_eq] at h
          unfold endStep at h
          split at h
          · split at h
            · cases h; exact ⟨rfl, rfl⟩
            · cases h
          · split at h
            · cases h; exact ⟨rfl, rfl⟩
            · cases h
          · cases h
        · cases h
      · cases h
    · cases h

/-- One operation of the text's order that is not walked into. -/
theorem app_step (hB : BinOK P) (hS : AllOK P S) {all : List Oper} {s : St} {o : Oper} {gd pd : Option Bool} {d : Dl} {cs : List (Bool × Bool)} {dec : List (Option Bool)} {β : Type} {k : St → Option β} {r : β}
    (hd : stepD P S z all (getT s.tm) (getM s.mem) s.nb gd pd o = some (d, cs)) (h : appK z s o.dst d dec cs k = some r) (hsz : s.sz ≤ 60000) (hs : StOK s) :
    ∃ s1, k s1 = some r ∧ s1.sz = s.sz ∧ s.nb ≤ s1.nb ∧ StOK s1 ∧ (Good s1 → Good s) ∧
      (Good s1 → ∀ (ops : Array Oper) (i : Nat), ops.toList = all → ops[i]? = some o → ∀ (E : Env) (a : Act) (w : World), R E s a w → ∀ (K : Act → World → Prop) (Q : Exit → Act → World → Prop),
        (∀ E' a' w', R E' s1 a' w' → Ext w E s w' E' s1 → K a' w') → wpOp P ops Q i K a w) := by
  obtain ⟨s1, h1, h2, h3, h4, h5, h6, h7, _⟩ := appK_spec (a := { tmps := Array.replicate s.sz undef, defers := [] }) (by simp) hsz h
  have hok := stepD_ok (fun t => hs.okT t) hs.okM' hd
  have hs1 : StOK s1 := hs.app hok h5 h6 h7.1
  refine ⟨s1, h1, h4, by omega, hs1, fun hg => (h2 hg).2.2, fun hg ops i hall hi E a w hr K Q hk => ?_⟩
  subst hall
  obtain ⟨c1, c2, _⟩ := h2 hg
  refine stepD_wp hB hS hi hr.tm (fun t => hs.okT t) hr.m.rel hs.okM' (fun j h1 _ => by simp [below, h1]) hd c1 c2 fun E' w' hp => ?_
  have hag : ∀ i, below s.nb i = true → E' i = E i := fun j hj => hp.agree j (.inl (by simpa [below] using hj))
  obtain ⟨tm1, sz1, mem1, nb1, dec1, cs1⟩ := s1
  simp only at h4 h5 h6
  subst h5 h6
  obtain ⟨m1, m2⟩ := MRel.post (tm := tm1) (sz := sz1) (dec := dec1) (cs := cs1) hr.m hok hp
  refine hk E' _ w' ⟨?_, by rw [h4]; exact hsz, fun t => ?_, ?_, hs1.okT, m1⟩ m2
  · rw [h4, ← hr.size]
    cases hd : o.dst <;> simp [Act.put]
  · have ht : ∀ t : Nat, a.tmps.getD t undef = (getT s.tm t).den E' := fun t => by rw [hr.tm t, LV.den_congr hag (hs.okT t)]
    have h8 : getT tm1 t = updτ (getT s.tm) o.dst d.val t := congrFun h7.1 t
    show _ = (getT tm1 t).den E'
    rw [h8]
    unfold updτ
    cases hd : o.dst with
    | none => exact ht t
    | some e =>
      simp only [Act.put]
      rw [getD_set a.tmps e t _ (by rw [hr.size]; exact h7.2 e hd)]
      by_cases hte : t = e
      · simp [hte]
      · rw [if_neg hte, if_neg hte]; exact ht t
  · cases hd : o.dst <;> exact hr.defers

theorem SO_succ (hB : BinOK P) (hS : AllOK P S) (hNG : ∀ (f : FuncId) (fn : Func), P.funcs[f]? = some fn → fn.name ≠ "runtime.NumGoroutine") {n : Nat} (ihO : SO P S z n) (ihB : SB P S z n) : SO P S z (n + 1) := by
  intro all l s out s' h hsz hs
  simp only [exec, step1] at h
  cases l with
  | nil =>
    simp only [opsStep] at h
    cases h
    exact ⟨rfl, id, hs, rfl, Nat.le_refl _, fun _ ops k _ _ E a w hr Q hQ => by simpa [wpOps] using hQ E a w hr (.refl _ _ _)⟩
  | cons o rest =>
    simp only [opsStep] at h
    generalize hdec : decs z o s.dec = q at h
    obtain ⟨gd, pd, dec⟩ := q
    simp only at h
    have hnext : ∀ (ops : Array Oper) (k : Nat), ops.toList = all → all.drop k = o :: rest → ops[k]? = some o ∧ all.drop (k + 1) = rest := by
      intro ops k hall hdrop
      constructor
      · have : (all.drop k)[0]? = some o := by rw [hdrop]; rfl
        rw [List.getElem?_drop] at this
        rw [← hall] at this
        simpa using this
      · have := congrArg List.tail hdrop
        simpa [List.tail_drop] using this
    -- the step that the evaluator takes by itself
    have plain : ∀ (d : Dl) (cs : List (Bool × Bool)), stepD P S z all (getT s.tm) (getM s.mem) s.nb gd pd o = some (d, cs) → (appK z s o.dst d dec cs fun s' => exec P S z n (.ops all rest) s') = some (out, s') →
        out = .ex .normal ∧ (Good s' → Good s) ∧ StOK s' ∧ s'.sz = s.sz ∧ s.nb ≤ s'.nb ∧
          (Good s' → ∀ (ops : Array Oper) (k : Nat), ops.toList = all → all.drop k = o :: rest → ∀ (E : Env) (a : Act) (w : World), R E s a w → ∀ Q : Exit → Act → World → Prop,
            (∀ E' a' w', R E' s' a' w' → Ext w E s w' E' s' → Q .normal a' w') → wpOps P ops Q (List.range' k (o :: rest).length) a w) := by
      intro d cs hd hk
      obtain ⟨s1, h1, h2, h3, h4, h5, h6⟩ := app_step (z := z) hB hS hd hk hsz hs
      obtain ⟨e1, e2, e3, e4, e5, e6⟩ := ihO all rest s1 out s' h1 (by omega) h4
      refine ⟨e1, fun hg => h5 (e2 hg), e3, e4.trans h2, Nat.le_trans h3 e5, fun hg ops k hall hdrop E a w hr Q hQ => ?_⟩
      rw [List.length_cons, List.range'_succ, wpOps_cons]
      obtain ⟨hk', hdrop'⟩ := hnext ops k hall hdrop
      refine h6 (e2 hg) ops k hall hk' E a w hr _ Q fun E' a' w' hr' hx => ?_
      exact e6 hg ops (k + 1) hall hdrop' E' a' w' hr' Q fun E'' a'' w'' hr'' hx' => hQ E'' a'' w'' hr'' (hx.trans hx')
    split at h
    · rename_i cs hw
      exact plain skipD cs (by unfold stepD; rw [hw]) h
    · rename_i cs hw
      unfold doStep at h
      split at h
      · rename_i f args hinl
        -- a call that is walked into
        have hc : ∃ c, o.op = .call c ∧ callee (getT s.tm) c = some (f, args) := by
          unfold inlined at hinl
          split at hinl
          · rename_i c ho
            refine ⟨c, ho, ?_⟩
            split at hinl
            · rename_i f' args' hcal
              split at hinl
              · cases hinl
              · cases hinl; exact hcal
            · cases hinl
          · cases hinl
        obtain ⟨c, ho, hcal⟩ := hc
        obtain ⟨c1, h1, h2⟩ := csK_spec h
        unfold inlStep at h1
        split at h1
        · rename_i v s2 hbody
          rw [forceV_eq] at h1
          have hargs : ∀ u ∈ args, u.ok (below s.nb) = true := callee_ok (fun t => hs.okT t) hcal
          obtain ⟨hsz2, htm2⟩ := body_same hbody
          simp only at hsz2 htm2
          obtain ⟨tm, h3, ⟨htm, hdst⟩, _⟩ := put_tm (a := { tmps := Array.replicate s2.sz undef, defers := [] }) (by simp) (by omega) h1
          obtain ⟨m', h4, hum, hsub⟩ := backM_spec h3
          obtain ⟨v', b1, b2, b3, b4, b5, b6, ⟨fn, b7, b8⟩, b9⟩ := ihB f args _ _ s2 hbody hs.okM hs.uq hargs
          cases b1
          simp only at b3
          have hs3 : StOK ⟨tm, s2.sz, m', s2.nb, s2.dec, s2.cs⟩ := by
            refine ⟨fun t => ?_, fun i b hb => b4 i b (hsub i b hb), hum b5⟩
            show (getT tm t).ok (below s2.nb) = true
            rw [htm]
            unfold updτ
            rw [htm2]
            cases hd : o.dst with
            | none => exact LV.ok_mono (below_mono b3) (hs.okT t)
            | some e =>
              by_cases hte : t = e
              · simp only [hte, if_true]; exact b6
              · simp only [hte, if_false]; exact LV.ok_mono (below_mono b3) (hs.okT t)
          obtain ⟨e1, e2, e3, e4, e5, e6⟩ := ihO all rest _ out s' h4 (by show s2.sz ≤ 60000; omega) hs3
          simp only at e4 e5
          refine ⟨e1, fun hg => ?_, e3, e4.trans hsz2, Nat.le_trans b3 e5, fun hg ops k hall hdrop E a w hr Q hQ => ?_⟩
          · exact (h2 (b2 (e2 hg))).2
          · rw [List.length_cons, List.range'_succ, wpOps_cons]
            obtain ⟨hk', hdrop'⟩ := hnext ops k hall hdrop
            have hg2 : Good s2 := e2 hg
            have hcs := (h2 (b2 hg2)).1
            unfold wpOp
            simp only [hk']
            subst hall
            rw [wants_spec (a := a) (E := E) hr.tm hw hcs]
            simp only [if_true]
            refine .inl (CallOK.wp (R := fun v'' w' => ∃ E', v'' = v.den E' ∧ MRel E' s2 w' ∧ Ext w E ⟨s.tm, s.sz, s.mem, s.nb, dec, c1⟩ w' E' s2) ho (eval_tmp hr.tm) hcal (.inl ⟨fn, b7, hNG f fn b7, b8, ?_⟩) ?_)
            · refine (b9 hg2 E w ⟨hr.m.rel, hr.m.okM, hr.m.uq⟩).mono fun e w' he => ?_
              obtain ⟨E', h5, h6, h7⟩ := he
              exact ⟨_, h5, E', rfl, h6, h7⟩
            · rintro v'' w' ⟨E', rfl, h6, h7⟩
              have hag : ∀ i, below s.nb i = true → E' i = E i := fun j hj => h7.agree j (by simpa [below] using hj)
              have ht : ∀ t : Nat, a.tmps.getD t undef = (getT s.tm t).den E' := fun t => by rw [hr.tm t, LV.den_congr hag (hs.okT t)]
              have hr3 : R E' ⟨tm, s2.sz, m', s2.nb, s2.dec, s2.cs⟩ (a.put o.dst (v.den E')) w' := by
                refine ⟨?_, by show s2.sz ≤ 60000; omega, fun t => ?_, ?_, hs3.okT, ⟨h6.rel.sub hsub, hs3.okM, hs3.uq⟩⟩
                · show _ = s2.sz
                  rw [hsz2, ← hr.size]
                  cases hd : o.dst <;> simp [Act.put]
                · show _ = (getT tm t).den E'
                  rw [htm]
                  unfold updτ
                  rw [htm2]
                  cases hd : o.dst with
                  | none => exact ht t
                  | some e =>
                    simp only [Act.put]
                    rw [getD_set a.tmps e t _ (by rw [hr.size, ← hsz2]; exact hdst e hd)]
                    by_cases hte : t = e
                    · simp [hte]
                    · rw [if_neg hte, if_neg hte]; exact ht t
                · cases hd : o.dst <;> exact hr.defers
              refine e6 hg ops (k + 1) rfl hdrop' E' _ w' hr3 Q fun E'' a'' w'' hr'' hx' => ?_
              refine hQ E'' a'' w'' hr'' (Ext.trans (s1 := ⟨tm, s2.sz, m', s2.nb, s2.dec, s2.cs⟩) ⟨h7.nb, h7.agree, h7.os, h7.tape, h7.output, h7.size, h7.frame, fun i hi => h7.src i ?_⟩ hx')
              obtain ⟨b, hb⟩ := Option.isSome_iff_exists.1 hi
              simp [hsub i b hb]
        · cases h1
      · rename_i hinl
        split at h
        · rename_i d hd
          exact plain d cs (by unfold stepD; rw [hw]; simp only [hd]) h
        · cases h
    · cases h

theorem SB_succ {n : Nat} (ihC : SC P S z n) : SB P S z (n + 1) := by
  intro f args s out s' h hokM huq hargs
  simp only [exec, step1, bodyStep] at h
  split at h
  · rename_i fn hf
    split at h
    · rename_i c hc
      split at h
      · rename_i hl1 hl2
        rw [nble, lenL_eq] at hl1
        rw [nble] at hl2
        have hl1' : args.length ≤ fn.ntmps := by simpa using hl1
        have hl2' : fn.ntmps ≤ 60000 := by simpa using hl2
        rw [argsTK_eq] at h
        have hget : ∀ j, getT (argsT .nil 0 args) j = args.getD j undefL := by
          intro j
          rw [getT_argsT args .nil 0 j (by omega)]
          by_cases hj : j < args.length
          · rw [if_pos (by omega)]; simp
          · rw [if_neg (by omega), getT_nil]
            simp [List.getD, List.getElem?_eq_none (Nat.le_of_not_lt hj)]
        have hs0 : StOK ⟨argsT .nil 0 args, fn.ntmps, s.mem, s.nb, s.dec, s.cs⟩ := by
          refine ⟨fun t => ?_, hokM, huq⟩
          show (getT (argsT .nil 0 args) t).ok (below s.nb) = true
          rw [hget]
          by_cases ht : t < args.length
          · simp only [List.getD, List.getElem?_eq_getElem ht, Option.getD_some]
            exact hargs _ (List.getElem_mem ht)
          · simp only [List.getD, List.getElem?_eq_none (Nat.le_of_not_lt ht), Option.getD_none]
            rfl
        -- what is common to both ways of ending
        have key : ∀ (e : Ex) (s1 : St) (v : LV), (e = .normal ∨ e = .ret) → exec P S z n (.code c) ⟨argsT .nil 0 args, fn.ntmps, s.mem, s.nb, s.dec, s.cs⟩ = some (.ex e, s1) →
            resultsD P fn.results.toList (getT s1.tm) s1.mem = some v → out = .val v → s' = ⟨s.tm, s.sz, s1.mem, s1.nb, s1.dec, s1.cs⟩ →
            ∃ v, out = .val v ∧ (Good s' → Good s) ∧ s.nb ≤ s'.nb ∧ (∀ i b, getM s'.mem i = some b → i < s'.nb ∧ okL (below s'.nb) b.cells = true) ∧ uniq s'.mem ∧ v.ok (below s'.nb) = true ∧
              (∃ fn, P.funcs[f]? = some fn ∧ fn.body.isSome) ∧
              (Good s' → ∀ (E : Env) (w : World), MRel E s w → Calls P f (args.map (LV.den E)).toArray w fun e w' => ∃ E', e = .returned (v.den E') ∧ MRel E' s' w' ∧ Ext w E s w' E' s') := by
          intro e s1 v he hex hres hout hs'
          obtain ⟨e', q1, q2, q3, q4, q5, q6⟩ := ihC c _ _ s1 hex hl2' hs0
          cases q1
          subst hs'
          simp only at q5
          refine ⟨v, hout, fun hg => q2 hg, q5, q3.okM, q3.uq, resultsD_ok (fun t => q3.okT t) q3.okM' hres, ⟨fn, hf, by simp [hc]⟩, fun hg E w hm => ?_⟩
          refine calls_of_wp hf hc (q6 hg E _ w ⟨?_, hl2', fun t => ?_, rfl, hs0.okT, ⟨hm.rel, hm.okM, hm.uq⟩⟩ _ fun E' a' w' hr' hx' => ?_)
          · simp; omega
          · show _ = (getT (argsT .nil 0 args) t).den E
            rw [hget]
            simp only [Array.getD_eq_getD_getElem?, Array.getElem?_append, List.size_toArray, List.length_map]
            by_cases ht : t < args.length
            · rw [if_pos ht]
              simp [List.getD, List.getElem?_eq_getElem ht]
            · rw [if_neg ht]
              simp only [List.getD, List.getElem?_eq_none (Nat.le_of_not_lt ht), Option.getD_none]
              by_cases ht2 : t - args.length < fn.ntmps - args.length
              · simp [ht2]; rfl
              · simp [ht2]; rfl
          · have hpost : bodyPost P fn (fun e w' => ∃ E', e = .returned (v.den E') ∧ MRel E' ⟨s.tm, s.sz, s1.mem, s1.nb, s1.dec, s1.cs⟩ w' ∧ Ext w E s w' E' ⟨s.tm, s.sz, s1.mem, s1.nb, s1.dec, s1.cs⟩) .ret a' w' :=
              ⟨hr'.defers, v.den E', resultsD_spec hr'.m.rel hr'.tm hres, E', rfl, ⟨hr'.m.rel, hr'.m.okM, hr'.m.uq⟩, ⟨hx'.nb, hx'.agree, hx'.os, hx'.tape, hx'.output, hx'.size, hx'.frame, hx'.src⟩⟩
            rcases he with rfl | rfl
            · exact hpost
            · exact hpost
        unfold endStep at h
        split at h
        · rename_i s1 hex
          split at h
          · rename_i v hres
            cases h
            exact key .normal s1 v (.inl rfl) hex hres rfl rfl
          · cases h
        · rename_i s1 hex
          split at h
          · rename_i v hres
            cases h
            exact key .ret s1 v (.inr rfl) hex hres rfl rfl
          · cases h
        · cases h
      · cases h
    · cases h
  · cases h

theorem SC_succ (hB : BinOK P) (hS : AllOK P S) (hmix : P.follows .mixedOrders = true) {n : Nat} (ihC : SC P S z n) (ihO : SO P S z n) (ihL : SL P S z (n + 1)) : SC P S z (n + 1) := by
  intro c s out s' h hsz hs
  have h0 := h
  simp only [exec, step1] at h
  cases c <;> simp only [codeStep, reduceCtorEq] at h
  case skip =>
    cases h
    exact ⟨.normal, rfl, id, hs, rfl, Nat.le_refl _, fun _ E a w hr Q hQ => wp_skip (hQ E a w hr (.refl _ _ _))⟩
  case region id ops draw =>
    cases draw with
    | false =>
      simp only at h
      obtain ⟨e1, e2, e3, e4, e5, e6⟩ := ihO _ _ s out s' h hsz hs
      refine ⟨.normal, e1, e2, e3, e4, e5, fun hg E a w hr Q hQ => wp_region ?_⟩
      have := e6 hg ops 0 rfl rfl E a w hr Q hQ
      rw [List.range_eq_range']
      simpa using this
    | true =>
      simp only at h
      unfold drawStep at h
      split at h
      · rename_i s1 hd
        cases h
        obtain ⟨e2, e3, e4, e5, e6⟩ := drawRun_wp hB hS hmix hd hsz hs
        exact ⟨.normal, rfl, e2, e3, e4, e5, fun hg E a w hr Q hQ => e6 hg id E a w hr Q hQ⟩
      · cases h
  case seq x y =>
    cases hx : exec P S z n (.code x) s with
    | none => rw [hx] at h; simp [seqStep] at h
    | some q =>
      obtain ⟨o1, s1⟩ := q
      rw [hx] at h
      obtain ⟨e, e1, e2, e3, e4, e5, e6⟩ := ihC x s o1 s1 hx hsz hs
      subst e1
      have other : e ≠ .normal → seqStep (exec P S z n) y (some (Out.ex e, s1)) = some (Out.ex e, s1) := by
        intro hne
        cases e <;> first | exact absurd rfl hne | rfl
      by_cases hne : e = .normal
      · subst hne
        simp only [seqStep] at h
        obtain ⟨e', f1, f2, f3, f4, f5, f6⟩ := ihC y s1 out s' h (by omega) e3
        refine ⟨e', f1, fun hg => e2 (f2 hg), f3, f4.trans e4, Nat.le_trans e5 f5, fun hg E a w hr Q hQ => wp_seq ?_⟩
        refine e6 (f2 hg) E a w hr _ fun E' a' w' hr' hx' => ?_
        exact f6 hg E' a' w' hr' Q fun E'' a'' w'' hr'' hx'' => hQ E'' a'' w'' hr'' (hx'.trans hx'')
      · rw [other hne] at h
        cases h
        refine ⟨e, rfl, e2, e3, e4, e5, fun hg E a w hr Q hQ => wp_seq ?_⟩
        refine e6 hg E a w hr _ fun E' a' w' hr' hx' => ?_
        have := hQ E' a' w' hr' hx'
        cases e <;> first | exact absurd rfl hne | exact this
  case cond c x y =>
    unfold condStep at h
    split at h
    · rename_i t ht
      generalize hq : takeD s.dec = q at h
      obtain ⟨d, dec⟩ := q
      simp only at h
      split at h
      · rename_i cs hb
        obtain ⟨c1, h1, h2⟩ := csK_spec h
        have hs1 : StOK ⟨s.tm, s.sz, s.mem, s.nb, dec, c1⟩ := ⟨hs.okT, hs.okM, hs.uq⟩
        obtain ⟨e, e1, e2, e3, e4, e5, e6⟩ := ihC x _ out s' h1 hsz hs1
        refine ⟨e, e1, fun hg => (h2 (e2 hg)).2, e3, e4, e5, fun hg E a w hr Q hQ => ?_⟩
        have htt := isTrue_spec hb (h2 (e2 hg)).1
        subst htt
        refine wp_cond_true (by rw [ev_spec (eval_tmp hr.tm) ht]; rfl) ?_
        exact e6 hg E a w ⟨hr.size, hr.le, hr.tm, hr.defers, hr.okT, ⟨hr.m.rel, hr.m.okM, hr.m.uq⟩⟩ Q fun E' a' w' hr' hx' => hQ E' a' w' hr' ⟨hx'.nb, hx'.agree, hx'.os, hx'.tape, hx'.output, hx'.size, hx'.frame, hx'.src⟩
      · rename_i cs hb
        obtain ⟨c1, h1, h2⟩ := csK_spec h
        have hs1 : StOK ⟨s.tm, s.sz, s.mem, s.nb, dec, c1⟩ := ⟨hs.okT, hs.okM, hs.uq⟩
        obtain ⟨e, e1, e2, e3, e4, e5, e6⟩ := ihC y _ out s' h1 hsz hs1
        refine ⟨e, e1, fun hg => (h2 (e2 hg)).2, e3, e4, e5, fun hg E a w hr Q hQ => ?_⟩
        have htt := isTrue_spec hb (h2 (e2 hg)).1
        subst htt
        refine wp_cond_false (by rw [ev_spec (eval_tmp hr.tm) ht]; rfl) ?_
        exact e6 hg E a w ⟨hr.size, hr.le, hr.tm, hr.defers, hr.okT, ⟨hr.m.rel, hr.m.okM, hr.m.uq⟩⟩ Q fun E' a' w' hr' hx' => hQ E' a' w' hr' ⟨hx'.nb, hx'.agree, hx'.os, hx'.tape, hx'.output, hx'.size, hx'.frame, hx'.src⟩
      · cases h
    · cases h
  case block id x =>
    cases hx : exec P S z n (.code x) s with
    | none => rw [hx] at h; simp [blockStep] at h
    | some q =>
      obtain ⟨o1, s1⟩ := q
      rw [hx] at h
      obtain ⟨e, e1, e2, e3, e4, e5, e6⟩ := ihC x s o1 s1 hx hsz hs
      subst e1
      cases e with
      | normal =>
        simp only [blockStep] at h
        cases h
        exact ⟨.normal, rfl, e2, e3, e4, e5, fun hg E a w hr Q hQ => wp_block (e6 hg E a w hr _ fun E' a' w' hr' hx' => hQ E' a' w' hr' hx')⟩
      | ret =>
        simp only [blockStep] at h
        cases h
        exact ⟨.ret, rfl, e2, e3, e4, e5, fun hg E a w hr Q hQ => wp_block (e6 hg E a w hr _ fun E' a' w' hr' hx' => hQ E' a' w' hr' hx')⟩
      | exit i =>
        simp only [blockStep, nbeq] at h
        by_cases hid : i = id
        · simp only [hid, decide_true] at h
          cases h
          refine ⟨.normal, rfl, e2, e3, e4, e5, fun hg E a w hr Q hQ => wp_block (e6 hg E a w hr _ fun E' a' w' hr' hx' => ?_)⟩
          simp only [Ex.to, Exit.inBlock, hid, if_true]
          exact hQ E' a' w' hr' hx'
        · simp only [hid, decide_false] at h
          cases h
          refine ⟨.exit i, rfl, e2, e3, e4, e5, fun hg E a w hr Q hQ => wp_block (e6 hg E a w hr _ fun E' a' w' hr' hx' => ?_)⟩
          simp only [Ex.to, Exit.inBlock, hid, if_false]
          exact hQ E' a' w' hr' hx'
  case loop x =>
    obtain ⟨e, m, e1, e2, e3, e4, e5, e6⟩ := ihL x s out s' h0 hsz hs
    exact ⟨e, e1, e2, e3, e4, e5, fun hg E a w hr Q hQ => wp_loop_rounds m (e6 hg E a w hr Q hQ)⟩
  case exit id =>
    cases h
    exact ⟨.exit id, rfl, fun hg => hg, hs, rfl, Nat.le_refl _, fun _ E a w hr Q hQ => wp_exit (hQ E a w hr (.refl _ _ _))⟩
  case ret =>
    cases h
    exact ⟨.ret, rfl, id, hs, rfl, Nat.le_refl _, fun _ E a w hr Q hQ => wp_ret (hQ E a w hr (.refl _ _ _))⟩

theorem SL_succ {n : Nat} (ihC : SC P S z n) (ihL : SL P S z n) : SL P S z (n + 1) := by
  intro x s out s' h hsz hs
  simp only [exec, step1, codeStep] at h
  cases hx : exec P S z n (.code x) s with
  | none => rw [hx] at h; simp [seqStep] at h
  | some q =>
    obtain ⟨o1, s1⟩ := q
    rw [hx] at h
    obtain ⟨e, e1, e2, e3, e4, e5, e6⟩ := ihC x s o1 s1 hx hsz hs
    subst e1
    by_cases hne : e = .normal
    · subst hne
      simp only [seqStep] at h
      obtain ⟨e', m, f1, f2, f3, f4, f5, f6⟩ := ihL x s1 out s' h (by omega) e3
      refine ⟨e', m + 1, f1, fun hg => e2 (f2 hg), f3, f4.trans e4, Nat.le_trans e5 f5, fun hg E a w hr Q hQ => ?_⟩
      rw [rounds_succ]
      refine e6 (f2 hg) E a w hr _ fun E' a' w' hr' hx' => ?_
      exact f6 hg E' a' w' hr' Q fun E'' a'' w'' hr'' hx'' => hQ E'' a'' w'' hr'' (hx'.trans hx'')
    · have other : seqStep (exec P S z n) (.loop x) (some (Out.ex e, s1)) = some (Out.ex e, s1) := by
        cases e <;> first | exact absurd rfl hne | rfl
      rw [other] at h
      cases h
      refine ⟨e, 1, rfl, e2, e3, e4, e5, fun hg E a w hr Q hQ => ?_⟩
      rw [rounds_succ]
      refine e6 hg E a w hr _ fun E' a' w' hr' hx' => ?_
      have := hQ E' a' w' hr' hx'
      cases e <;> first | exact absurd rfl hne | exact this

/-- The evaluator is sound. -/
theorem exec_sound (hB : BinOK P) (hS : AllOK P S) (hmix : P.follows .mixedOrders = true) (hNG : ∀ (f : FuncId) (fn : Func), P.funcs[f]? = some fn → fn.name ≠ "runtime.NumGoroutine") :
    ∀ n, SC P S z n ∧ SL P S z n ∧ SO P S z n ∧ SB P S z n
  | 0 => ⟨fun c s out s' h => by simp [exec] at h, fun c s out s' h => by simp [exec] at h, fun all l s out s' h => by simp [exec] at h, fun f args s out s' h => by simp [exec] at h⟩
  | n + 1 => by
    obtain ⟨h1, h2, h3, h4⟩ := exec_sound hB hS hmix hNG n
    have hL := SL_succ h1 h2
    exact ⟨SC_succ hB hS hmix h1 h3 hL, hL, SO_succ hB hS hNG h3 h4, SB_succ h1⟩

end
end Go.Lr

/- The local evaluator: the comparing of structs and arrays. -/
namespace Go.Lr
open Go.RowKit

section
variable {P : Program} {E : Env}

theorem forIn_all {α : Type} (f : α → Option Bool × Unit → Sem (ForInStep (Option Bool × Unit))) (b : α → Bool) (w : World) : ∀ (l : List α),
    (∀ x ∈ l, (f x (none, ())).run P w = .ok (if b x then .yield (none, ()) else .done (some false, ())) w) →
    (forIn l (none, ()) f).run P w = .ok (if l.all b then (none, ()) else (some false, ())) w
  | [], _ => by simp
  | x :: l, h => by
    simp only [List.forIn_cons, Sem.run_bind, h x (by simp), Result.andThen_ok]
    cases hb : b x with
    | false => simp [hb]
    | true =>
      simp only [if_true, List.all_cons, hb, Bool.true_and]
      exact forIn_all f b w l fun y hy => h y (by simp [hy])

def eqF (P : Program) (d : Nat) (xs ys : List At) (f : Field) : Bool :=
  match partV P f.type xs f.offset, partV P f.type ys f.offset with
  | some a, some b => (eqV P d f.type a b).getD false
  | _, _ => false

theorem eqFields_spec {d : Nat} {xs ys : List At} : ∀ {fs : List Field} {r : Bool}, eqFields P (eqV P d) fs xs ys = some r →
    r = fs.all (eqF P d xs ys) ∧ ∀ f ∈ fs, f.name ≠ "_" ∧ ∃ a b, partV P f.type xs f.offset = some a ∧ partV P f.type ys f.offset = some b ∧ eqV P d f.type a b = some (eqF P d xs ys f)
  | [], r, h => by simp only [eqFields] at h; cases h; simp
  | f :: fs, r, h => by
    simp only [eqFields] at h
    split at h
    · cases h
    · rename_i hn
      split at h
      · rename_i a b ha hb
        split at h
        · rename_i r1 rs h1 h2
          cases h
          obtain ⟨g1, g2⟩ := eqFields_spec h2
          have he : eqF P d xs ys f = r1 := by simp [eqF, ha, hb, h1]
          refine ⟨by simp [he, g1], fun f' hf' => ?_⟩
          rcases List.mem_cons.1 hf' with rfl | hf'
          · exact ⟨by simpa using hn, a, b, ha, hb, by rw [he]; exact h1⟩
          · exact g2 f' hf'
        · cases h
      · cases h

def eqE (P : Program) (d : Nat) (e : TypeId) (s : Nat) (xs ys : List At) (i : Nat) : Bool :=
  match partV P e xs (i * s), partV P e ys (i * s) with
  | some a, some b => (eqV P d e a b).getD false
  | _, _ => false

theorem eqElems_spec {d s : Nat} {e : TypeId} {xs ys : List At} : ∀ {n i : Nat} {r : Bool}, eqElems P (eqV P d) e s n i xs ys = some r →
    r = (List.range' i n).all (eqE P d e s xs ys) ∧ ∀ j ∈ List.range' i n, ∃ a b, partV P e xs (j * s) = some a ∧ partV P e ys (j * s) = some b ∧ eqV P d e a b = some (eqE P d e s xs ys j)
  | 0, i, r, h => by simp only [eqElems] at h; cases h; simp
  | n + 1, i, r, h => by
    simp only [eqElems] at h
    split at h
    · rename_i a b ha hb
      split at h
      · rename_i r1 rs h1 h2
        cases h
        obtain ⟨g1, g2⟩ := eqElems_spec h2
        have he : eqE P d e s xs ys i = r1 := by simp [eqE, ha, hb, h1]
        rw [List.range'_succ]
        refine ⟨by simp [he, g1], fun j hj => ?_⟩
        rcases List.mem_cons.1 hj with rfl | hj
        · exact ⟨a, b, ha, hb, by rw [he]; exact h1⟩
        · exact g2 j hj
      · cases h
    · cases h

theorem eqV_spec (w : World) : ∀ {d : Nat} {t : TypeId} {x y : V1} {b : Bool}, eqV P d t x y = some b → (Op.equalIn d t (x.den E) (y.den E)).run P w = .ok b w
  | 0, t, x, y, b, h => by simp [eqV] at h
  | d + 1, t, x, y, b, h => by
    unfold eqV at h
    unfold Op.equalIn
    split at h
    · rename_i p q hu
      cases h
      simp [run_underlying hu, V1.den, At.den]
    · rename_i k' k p k'' q hu
      split at h
      · rename_i hk
        cases h
        have := kindEq_iff hk
        subst this
        simp [run_underlying hu, V1.den, At.den]
      · cases h
    · rename_i fs xs ys hu
      split at h
      · cases h
      · rename_i hst
        obtain ⟨g1, g2⟩ := eqFields_spec h
        simp only [Sem.run_bind, run_underlying hu, Result.andThen_ok, V1.den]
        have hprog : (program : Sem Program).run P w = .ok P w := rfl
        simp only [hprog, Result.andThen_ok, hst, Bool.false_eq_true, if_false, Sem.run_bind]
        rw [← Array.forIn_toList, forIn_all _ (eqF P d xs ys) w fs.toList (fun f hf => by
          obtain ⟨hn, a, b', ha, hb, hab⟩ := g2 f hf
          have h1 := partV_spec (E := E) ha w
          have h2 := partV_spec (E := E) hb w
          have h3 := eqV_spec w hab
          simp only [ne_eq, hn, not_false_eq_true, if_true, Sem.run_bind, h1, Result.andThen_ok, h2, h3]
          cases eqF P d xs ys f <;> simp)]
        rw [g1]
        cases fs.toList.all (eqF P d xs ys) <;> simp
    · rename_i n e xs ys hu
      split at h
      · rename_i s hs
        obtain ⟨g1, g2⟩ := eqElems_spec h
        simp only [Sem.run_bind, run_underlying hu, Result.andThen_ok, V1.den, sizeT_spec hs]
        rw [Std.Legacy.Range.forIn_eq_forIn_range', forIn_all _ (eqE P d e s xs ys) w _ (fun j hj => by
          obtain ⟨a, b', ha, hb, hab⟩ := g2 j (by simpa [Std.Legacy.Range.size] using hj)
          have h1 := partV_spec (E := E) ha w
          have h2 := partV_spec (E := E) hb w
          have h3 := eqV_spec w hab
          simp only [Sem.run_bind, h1, Result.andThen_ok, h2, h3]
          cases eqE P d e s xs ys j <;> simp)]
        rw [g1]
        simp only [Std.Legacy.Range.size, Nat.sub_zero, Nat.add_one_sub_one, Nat.div_one, Result.andThen_ok]
        cases (List.range' 0 n).all (eqE P d e s xs ys) <;> simp
      · cases h
    · cases h

theorem intOf?_spec {x : LV} {k : IntKind} {n : Int} (h : intOf? x = some (k, n)) : x = .v (.one (.int k n)) := by
  unfold intOf? at h
  split at h
  · cases h; rfl
  · cases h

/-- Shapes that are compared. -/
theorem eqV_shape {d : Nat} {t : TypeId} {x y : V1} {b : Bool} (h : eqV P d t x y = some b) :
    (∃ p q, x = .one (.bool p) ∧ y = .one (.bool q)) ∨ (∃ k p l q, x = .one (.int k p) ∧ y = .one (.int l q)) ∨ (∃ p q, x = .agg p ∧ y = .agg q) := by
  cases d with
  | zero => simp [eqV] at h
  | succ d =>
    unfold eqV at h
    split at h
    · exact .inl ⟨_, _, rfl, rfl⟩
    · exact .inr (.inl ⟨_, _, _, _, rfl, rfl⟩)
    · exact .inr (.inr ⟨_, _, rfl, rfl⟩)
    · exact .inr (.inr ⟨_, _, rfl, rfl⟩)
    · cases h

theorem binOK (P : Program) : BinOK P := by
  intro E w a op t x y xo yo kn d hx hy h
  unfold binD at h
  split at h
  · rename_i k p hp
    have hxe := intOf?_spec hp
    split at h
    · rename_i l q hq
      have hye := intOf?_spec hq
      subst hxe hye
      have hpur := binII_spec (P := P) (E := E) (w := w) t h
      refine ⟨hpur.wr, hpur.nw, fun hc => ?_⟩
      have := hpur.run hc
      simp only [LV.den, V1.den, At.den, Sem.run_bind]
      have hg : (eqGuard op t xo yo (.int k p) (.int l q)).run P w = .ok () w := by
        unfold eqGuard
        cases op <;> simp
      rw [hg]
      exact this
    · cases h
  · rename_i hni
    split at h
    · rename_i u hu
      split at h
      · rename_i v hv
        have hxe : x = .v u := by
          unfold v1Of? at hu
          split at hu
          · cases hu; rfl
          · cases hu
        have hye : y = .v v := by
          unfold v1Of? at hv
          split at hv
          · cases hv; rfl
          · cases hv
        subst hxe hye
        have key : ∀ (r : Bool), P.eqGuardType P.depth t = false → eqV P 10000 t u v = some r → (op = .eql ∨ op = .neq) →
            (eqGuard op t xo yo (u.den E) (v.den E)).run P w = .ok () w ∧ (Op.equal t (u.den E) (v.den E)).run P w = .ok r w := by
          intro r hg hr hop
          refine ⟨?_, eqV_spec w hr⟩
          unfold eqGuard
          rcases eqV_shape hr with ⟨p, q, rfl, rfl⟩ | ⟨k, p, l, q, rfl, rfl⟩ | ⟨p, q, rfl, rfl⟩
          · rcases hop with rfl | rfl <;> simp [V1.den, At.den]
          · rcases hop with rfl | rfl <;> simp [V1.den, At.den]
          · have hprog : (program : Sem Program).run P w = .ok P w := rfl
            rcases hop with rfl | rfl <;> simp [V1.den, hprog, hg]
        unfold binEq at h
        split at h
        · split at h
          · rename_i r hg hr
            refine pur_val1 h ?_
            obtain ⟨h1, h2⟩ := key r hg hr (.inl rfl)
            simp only [LV.den, Sem.run_bind, h1, Result.andThen_ok]
            rcases eqV_shape hr with ⟨p, q, rfl, rfl⟩ | ⟨k, p, l, q, rfl, rfl⟩ | ⟨p, q, rfl, rfl⟩
            · simp only [V1.den, At.den] at h2 ⊢
              simp only [binOp, Sem.run_bind, h2, Result.andThen_ok, Sem.run_pure]
            · simp [intOf?] at hni
            · simp only [V1.den] at h2 ⊢
              simp only [binOp, Sem.run_bind, h2, Result.andThen_ok, Sem.run_pure]
              rfl
          · cases h
        · split at h
          · rename_i r hg hr
            refine pur_val1 h ?_
            obtain ⟨h1, h2⟩ := key r hg hr (.inr rfl)
            simp only [LV.den, Sem.run_bind, h1, Result.andThen_ok]
            rcases eqV_shape hr with ⟨p, q, rfl, rfl⟩ | ⟨k, p, l, q, rfl, rfl⟩ | ⟨p, q, rfl, rfl⟩
            · simp only [V1.den, At.den] at h2 ⊢
              simp only [binOp, Sem.run_bind, h2, Result.andThen_ok, Sem.run_pure]
            · simp [intOf?] at hni
            · simp only [V1.den] at h2 ⊢
              simp only [binOp, Sem.run_bind, h2, Result.andThen_ok, Sem.run_pure]
              rfl
          · cases h
        · cases h
      · cases h
    · cases h

end
end Go.Lr

/- The local evaluator: from a run to what a call does; summaries. -/
namespace Go.Lr
open Go.RowKit

def E0 : Env := fun _ => (0, 0)
def noP : Nat → Bool := fun _ => false

theorem den_noP {E : Env} {v : LV} (h : v.ok noP = true) : v.den E = v.den E0 := LV.den_congr (p := noP) (fun i hi => by cases hi) h
theorem denL_noP {E : Env} {l : List LV} (h : ∀ v ∈ l, v.ok noP = true) : l.map (LV.den E) = l.map (LV.den E0) := List.map_congr_left fun v hv => den_noP (h v hv)
theorem denA_noP {E : Env} {l : List At} (h : okL noP l = true) : l.map (At.den E) = l.map (At.den E0) := denL_congr (p := noP) (fun i hi => by cases hi) h
theorem noP_below {n : Nat} : ∀ i, noP i = true → below n i = true := fun i hi => by cases hi

/-- What the evaluator leans on, of a program and its summaries. -/
structure Sound (P : Program) (S : FuncId → Option SumK) : Prop where
  sums : AllOK P S
  mix : P.follows .mixedOrders = true
  ng : ∀ (f : FuncId) (fn : Func), P.funcs[f]? = some fn → fn.name ≠ "runtime.NumGoroutine"

def plainVs (l : List LV) : Bool :=
  match l with
  | [] => true
  | v :: l => match v.ok noP with
    | true => plainVs l
    | false => false

theorem plainVs_iff : ∀ {l : List LV}, plainVs l = true ↔ ∀ v ∈ l, v.ok noP = true
  | [] => by simp [plainVs]
  | v :: l => by
    simp only [plainVs, List.mem_cons, forall_eq_or_imp]
    cases h : v.ok noP <;> simp [plainVs_iff (l := l)]

section
variable {P : Program} {S : FuncId → Option SumK} {z : Md}

theorem runF_body {n : Nat} {f : FuncId} {args : List LV} {m : Mem} {nb : Nat} {dec : List (Option Bool)} {v : LV} {m' : Mem} {nb' : Nat} {cs : List (Bool × Bool)} (h : runF P S z n f args m nb dec = some (v, m', nb', cs)) :
    ∃ s', exec P S z n (.body f args) ⟨.nil, 0, m, nb, dec, []⟩ = some (.val v, s') ∧ s'.mem = m' ∧ s'.nb = nb' ∧ s'.cs = cs := by
  unfold runF at h
  split at h
  · rename_i u s hs
    cases h
    exact ⟨s, hs, rfl, rfl, rfl⟩
  · cases h

/-- A call that is handed plain values, and hands back a plain one. -/
theorem calls_of_run (hs : Sound P S) {n : Nat} {f : FuncId} {args : List LV} {dec : List (Option Bool)} {v : LV} {m' : Mem} {nb' : Nat} {cs : List (Bool × Bool)} (h : runF P S z n f args [] 0 dec = some (v, m', nb', cs))
    (hc : ∀ c ∈ cs, c.1 = c.2) (ha : plainVs args = true) (hv : v.ok noP = true) (w : World) :
    Calls P f (args.map (LV.den E0)).toArray w fun e w' => e = .returned (v.den E0) ∧ Below w.heap.size w w' := by
  obtain ⟨s', h1, h2, h3, h4⟩ := runF_body h
  have ha' := plainVs_iff.1 ha
  obtain ⟨v', b1, b2, b3, b4, b5, b6, b7, b8⟩ := (exec_sound (binOK P) hs.sums hs.mix hs.ng n).2.2.2 f args _ _ s' h1 (fun i b hb => by simp [getM] at hb) trivial (fun u hu => LV.ok_mono noP_below (ha' u hu))
  cases b1
  have := b8 (by rw [Good, h4]; exact hc) E0 w ⟨⟨fun i b hb => by simp [getM] at hb, fun i j hi => by simp [getM] at hi⟩, fun i b hb => by simp [getM] at hb, trivial⟩
  refine this.mono fun e w' he => ?_
  obtain ⟨E', rfl, _, hx⟩ := he
  refine ⟨by rw [den_noP hv], hx.os, hx.tape, hx.output, hx.size, fun k hk => hx.frame k hk fun i hi => by simp [getM] at hi⟩

/-- The function is the program's own text. -/
def Own (P : Program) (f : FuncId) : Prop := ∃ fn, P.funcs[f]? = some fn ∧ fn.name ≠ "runtime.NumGoroutine" ∧ fn.body.isSome

theorem own_of (hs : Sound P S) {f : FuncId} {fn : Func} (h : P.funcs[f]? = some fn) (hb : fn.body.isSome = true) : Own P f := ⟨fn, h, hs.ng f fn h, hb⟩

theorem post_plain {w w' : World} {E : Env} {g : Nat → Option Blk} {nb : Nat} {v : LV} {cs : List (Bool × Bool)} (hr : Rel E g w) (hb : Below w.heap.size w w') : Post w E g nb ⟨v, [], [], [], cs⟩ E w' := by
  refine ⟨fun _ _ => rfl, ⟨fun i b h => ?_, hr.inj⟩, hb.os, hb.tape, hb.output, hb.size, fun k hk _ => hb.block k hk, fun i h1 h2 => by simp at h2; omega⟩
  obtain ⟨r, h1, h2, h3⟩ := hr.blk i b h
  exact ⟨r, by rw [hb.block _ (Array.getElem?_eq_some_iff.1 h1).1]; exact h1, h2, h3⟩

-- summaries of functions of plain values
/-- F: the value, and what is asked. -/
def pureSum (F : List LV → Option (LV × List (Bool × Bool))) : Sum := fun args =>
  match plainVs args with
  | true => match F args with
    | some (v, cs) => match v.ok noP with
      | true => some ⟨[], [], fun _ _ _ => some ⟨v, [], [], cs⟩⟩
      | false => none
    | none => none
  | false => none

theorem pureSum_ok {f : FuncId} {F : List LV → Option (LV × List (Bool × Bool))}
    (h : ∀ args v cs, F args = some (v, cs) → (∀ c ∈ cs, c.1 = c.2) → ∀ w, CallOK P f (args.map (LV.den E0)).toArray w fun u w' => u = v.den E0 ∧ Below w.heap.size w w') : SumOK P f (pureSum F) := by
  intro args t g nb p rdB wrB ans ws E w hs hr hw _ hgo hz hc hrel hg hargs hn
  unfold pureSum at hs
  split at hs
  · rename_i hp
    split at hs
    · rename_i v cs hF
      split at hs
      · rename_i hv
        cases hs
        simp only [Option.some.injEq] at hgo
        subst hgo
        simp only [zipW] at hz
        cases hz
        rw [denL_noP (plainVs_iff.1 hp)]
        refine (h args v cs hF hc w).imp (fun ⟨fn, h1, h2, h3, h4⟩ => ⟨fn, h1, h2, h3, h4.mono ?_⟩) (fun ⟨u, w', h1, h2⟩ => ⟨u, w', h1, E, ?_, post_plain hrel h2.2⟩)
        · rintro e w' ⟨u, rfl, rfl, hb⟩
          exact ⟨_, rfl, E, (den_noP hv).symm, post_plain hrel hb⟩
        · rw [h2.1]; exact (den_noP hv).symm
      · cases hs
    · cases hs
  · cases hs

theorem callOK_of {f : FuncId} {args : Array Value} {w : World} {v : Value} {B : World → World → Prop} (ho : Own P f) (h : Calls P f args w fun e w' => e = .returned v ∧ B w w') : CallOK P f args w fun u w' => u = v ∧ B w w' := by
  obtain ⟨fn, h1, h2, h3⟩ := ho
  exact .inl ⟨fn, h1, h2, h3, h.mono fun e w' he => ⟨v, he.1, rfl, he.2⟩⟩

-- a pointer to a struct of one flag, and plain values
/-- One block holds other cells; nothing else that was there has turned. -/
structure Turned (b : Nat) (o : Obj) (w w' : World) : Prop where
  os : w'.os = w.os
  tape : w'.tape = w.tape
  output : w'.output = w.output
  size : w.heap.size ≤ w'.heap.size
  this : w'.heap[b]? = some o
  block : ∀ k, k < w.heap.size → k ≠ b → w'.heap[k]? = w.heap[k]?

def flag (ty : TypeId) (h : Bool) : Blk := ⟨ty, (0, 0), 0, [.bool h]⟩
def flagO (ty : TypeId) (h : Bool) : Obj := .cells #[.bool h] ty (0, 0)

/-- A method that turns a flag, off a run. -/
theorem acc_of_run (hs : Sound P S) {n : Nat} {f : FuncId} {args : List LV} {dec : List (Option Bool)} {v : LV} {m' : Mem} {nb' : Nat} {cs : List (Bool × Bool)} {ty : TypeId} {h h' : Bool}
    (hrun : runF P S z n f (.v (.one (.ptr 0 0)) :: args) [(0, flag ty h)] 1 dec = some (v, m', nb', cs)) (hm : getM m' 0 = some (flag ty h')) (hc : ∀ c ∈ cs, c.1 = c.2) (ha : plainVs args = true) (hv : v.ok noP = true)
    (w : World) (b : Nat) (hb : w.heap[b]? = some (flagO ty h)) :
    Calls P f (Value.pointer (some ⟨b, 0, none⟩) :: args.map (LV.den E0)).toArray w fun e w' => e = .returned (v.den E0) ∧ Turned b (flagO ty h') w w' := by
  obtain ⟨s', h1, h2, h3, h4⟩ := runF_body hrun
  have ha' := plainVs_iff.1 ha
  have hget : ∀ i c, getM [(0, flag ty h)] i = some c → i = 0 ∧ c = flag ty h := by
    intro i c hc
    rw [getM_cons] at hc
    by_cases hi : i = 0
    · rw [if_pos hi] at hc; cases hc; exact ⟨hi, rfl⟩
    · rw [if_neg hi] at hc; simp [getM] at hc
  obtain ⟨v', b1, b2, b3, b4, b5, b6, b7, b8⟩ := (exec_sound (binOK P) hs.sums hs.mix hs.ng n).2.2.2 f (.v (.one (.ptr 0 0)) :: args) _ _ s' h1 (fun i c hc => by
    obtain ⟨rfl, rfl⟩ := hget i c hc
    exact ⟨Nat.zero_lt_one, rfl⟩) ⟨rfl, trivial⟩ (fun u hu => by
    rcases List.mem_cons.1 hu with rfl | hu
    · rfl
    · exact LV.ok_mono noP_below (ha' u hu))
  cases b1
  have hmr : MRel (fun _ => (b, 0)) ⟨.nil, 0, [(0, flag ty h)], 1, dec, []⟩ w := by
    refine ⟨⟨fun i c hc => ?_, fun i j hi hj _ => ?_⟩, fun i c hc => ?_, ⟨rfl, trivial⟩⟩
    · obtain ⟨rfl, rfl⟩ := hget i c hc
      exact ⟨[], hb, fun _ => rfl, fun hne => absurd rfl hne⟩
    · obtain ⟨c, hc⟩ := Option.isSome_iff_exists.1 hi
      obtain ⟨d, hd⟩ := Option.isSome_iff_exists.1 hj
      rw [(hget i c hc).1, (hget j d hd).1]
    · obtain ⟨rfl, rfl⟩ := hget i c hc
      exact ⟨Nat.zero_lt_one, rfl⟩
  have := b8 (by rw [Good, h4]; exact hc) (fun _ => (b, 0)) w hmr
  have hargs : ((LV.v (V1.one (At.ptr 0 0))) :: args).map (LV.den fun _ => (b, 0)) = Value.pointer (some ⟨b, 0, none⟩) :: args.map (LV.den E0) := by
    rw [List.map_cons, denL_noP ha']
    rfl
  rw [hargs] at this
  refine this.mono fun e w' he => ?_
  obtain ⟨E', rfl, hmr', hx⟩ := he
  refine ⟨by rw [den_noP hv], hx.os, hx.tape, hx.output, hx.size, ?_, fun k hk hne => hx.frame k hk fun i hi he => ?_⟩
  · obtain ⟨r, g1, g2, _⟩ := hmr'.rel.blk 0 (flag ty h') (by rw [h2]; exact hm)
    rw [hx.agree 0 (by show 0 < 1; omega)] at g1
    rw [g1, g2 rfl]
    rfl
  · exact hne he.symm

theorem post_turned {w w' : World} {E : Env} {g : Nat → Option Blk} {nb c : Nat} {v : LV} {ty : TypeId} {h h' : Bool} (hr : Rel E g w) (hc : g c = some (flag ty h)) (ht : Turned (E c).1 (flagO ty h') w w') :
    Post w E g nb ⟨v, [(c, some (flag ty h'))], [], [], []⟩ E w' := by
  refine ⟨fun _ _ => rfl, ⟨fun i b hb => ?_, fun i j hi hj he => ?_⟩, ht.os, ht.tape, ht.output, ht.size, fun k hk hne => ht.block k hk (fun e => hne c (by simp [hc]) e.symm), fun i h1 h2 => by simp at h2; omega⟩
  · simp only [nwG, wrG] at hb
    by_cases hi : i = c
    · subst hi
      rw [if_pos rfl] at hb
      cases hb
      exact ⟨[], ht.this, fun _ => rfl, fun hne => absurd rfl hne⟩
    · rw [if_neg hi] at hb
      obtain ⟨r, h1, h2, h3⟩ := hr.blk i b hb
      refine ⟨r, ?_, h2, h3⟩
      rw [ht.block _ (Array.getElem?_eq_some_iff.1 h1).1 (fun e => hi (hr.inj i c (by simp [hb]) (by simp [hc]) e))]
      exact h1
  · simp only [nwG, wrG] at hi hj
    refine hr.inj i j ?_ ?_ he
    · by_cases h1 : i = c
      · rw [h1]; simp [hc]
      · simpa [if_neg h1] using hi
    · by_cases h1 : j = c
      · rw [h1]; simp [hc]
      · simpa [if_neg h1] using hj

/-- F: of the values and the flag: the value, the flag, what is asked. -/
def accSum (ty : TypeId) (F : List LV → Bool → Option (LV × Bool × List (Bool × Bool))) : Sum := fun args =>
  match args with
  | .v (.one (.ptr c 0)) :: rest => match plainVs rest with
    | true => some ⟨[], [c], fun _ wB _ => match wB with
      | [⟨t, (0, 0), 0, [.bool h]⟩] => match Nat.beq t ty with
        | true => match F rest h with
          | some (v, h', cs) => match v.ok noP with
            | true => some ⟨v, [flag ty h'], [], cs⟩
            | false => none
          | none => none
        | false => none
      | _ => none⟩
    | false => none
  | _ => none

theorem accSum_ok {f : FuncId} {ty : TypeId} {F : List LV → Bool → Option (LV × Bool × List (Bool × Bool))}
    (h : ∀ args hb v h' cs, F args hb = some (v, h', cs) → (∀ c ∈ cs, c.1 = c.2) → plainVs args = true → ∀ (w : World) (b : Nat), w.heap[b]? = some (flagO ty hb) →
      CallOK P f (Value.pointer (some ⟨b, 0, none⟩) :: args.map (LV.den E0)).toArray w fun u w' => u = v.den E0 ∧ Turned b (flagO ty h') w w') : SumOK P f (accSum ty F) := by
  intro args t g nb p rdB wrB ans ws E w hs hr hw _ hgo hz hc hrel hg hargs hn
  unfold accSum at hs
  split at hs
  · rename_i c rest
    split at hs
    · rename_i hp
      cases hs
      simp only at hgo hw
      split at hgo
      · rename_i t' hb
        split at hgo
        · rename_i hty
          rw [nbeq] at hty
          have hty' : t' = ty := by simpa using hty
          subst hty'
          split at hgo
          · rename_i v h' cs hF
            split at hgo
            · rename_i hv
              cases hgo
              simp only [liveAll] at hw
              split at hw
              · rename_i k r hk hr'
                cases hr'
                cases hw
                simp only [zipW] at hz
                cases hz
                obtain ⟨r', g1, g2, _⟩ := hrel.blk c _ hk
                have hcell : w.heap[(E c).1]? = some (flagO t' hb) := by rw [g1, g2 rfl]; rfl
                have hargs' : ((LV.v (V1.one (At.ptr c 0))) :: rest).map (LV.den E) = Value.pointer (some ⟨(E c).1, 0, none⟩) :: rest.map (LV.den E0) := by
                  rw [List.map_cons, denL_noP (plainVs_iff.1 hp)]
                  rfl
                rw [hargs']
                refine (h rest hb v h' cs hF hc hp w (E c).1 hcell).imp (fun ⟨fn, h1, h2, h3, h4⟩ => ⟨fn, h1, h2, h3, h4.mono ?_⟩) (fun ⟨u, w', h1, h2⟩ => ⟨u, w', h1, E, ?_, post_turned hrel hk h2.2⟩)
                · rintro e w' ⟨u, rfl, rfl, ht⟩
                  exact ⟨_, rfl, E, (den_noP hv).symm, post_turned hrel hk ht⟩
                · rw [h2.1]; exact (den_noP hv).symm
              · cases hw
            · cases hgo
          · cases hgo
        · cases hgo
      · cases hgo
    · cases hs
  · cases hs

-- math/bits.Add64, Sub64: the model answers
def addF : List LV → Option (LV × List (Bool × Bool))
  | [.v (.one (.int .u64 x)), .v (.one (.int .u64 y)), .v (.one (.int .u64 c))] =>
    some (.tup [.one (.int .u64 (u64 (x + y + c))), .one (.int .u64 ((x + y + c) / 18446744073709551616))], [(decide (0 ≤ x) && (decide (0 ≤ y) && (decide (0 ≤ c) && decide (c ≤ 1))), true)])
  | _ => none

/-- What is borrowed. -/
def borrow (x y c : Int) : Int := if x < y + c then 1 else 0

def subF : List LV → Option (LV × List (Bool × Bool))
  | [.v (.one (.int .u64 x)), .v (.one (.int .u64 y)), .v (.one (.int .u64 c))] =>
    some (.tup [.one (.int .u64 (u64 (x - y - c))), .one (.int .u64 (borrow x y c))], [(decide (0 ≤ x) && (decide (0 ≤ y) && (decide (y < 18446744073709551616) && (decide (0 ≤ c) && decide (c ≤ 1)))), true)])
  | _ => none

theorem add64_ok {f : FuncId} {fn : Func} (hf : P.funcs[f]? = some fn) (hname : (fn.name == "runtime.NumGoroutine") = false) (hb : fn.body.isNone = true) (hn : Extern.findNext fn = none) (he : Extern.find fn = some add64Entry) : SumOK P f (pureSum addF) := by
  refine pureSum_ok fun args v cs hF hc w => .inr ?_
  unfold addF at hF
  split at hF
  · rename_i x y c
    cases hF
    have hx := hc _ (List.mem_singleton.2 rfl)
    simp only [Bool.and_eq_true, decide_eq_true_eq] at hx
    obtain ⟨h1, h2, h3, h4⟩ := hx
    refine ⟨_, w, ?_, rfl, .refl _ _⟩
    have : ([LV.v (V1.one (At.int .u64 x)), .v (.one (.int .u64 y)), .v (.one (.int .u64 c))].map (LV.den E0)).toArray = #[.int .u64 x, .int .u64 y, .int .u64 c] := rfl
    rw [this, run_callFunc_extern hf hname hb hn he, run_add64 x y c h1 h2 h3 h4]
    rfl
  · cases hF

def sub64E : Array Value → Sem Value := fun args => do
  let (x, y, b) ← Extern.MathBitsCarry.three "Sub64" args
  pure (Extern.MathBitsCarry.pair ((x + Extern.MathBitsCarry.m64 - y - b) % Extern.MathBitsCarry.m64) (if x < y + b then 1 else 0))

theorem run_sub64E (x y b : Nat) (hb : b ≤ 1) (w : World) :
    (sub64E #[.int .u64 x, .int .u64 y, .int .u64 b]).run P w =
      .ok (.tuple #[.int .u64 (((x + 18446744073709551616 - y - b) % 18446744073709551616 : Nat) : Int), .int .u64 ((if x < y + b then 1 else 0 : Nat) : Int)]) w := by
  have : b = 0 ∨ b = 1 := by omega
  rcases this with rfl | rfl <;> rfl

theorem sub64_ok {f : FuncId} {fn : Func} (hf : P.funcs[f]? = some fn) (hname : (fn.name == "runtime.NumGoroutine") = false) (hb : fn.body.isNone = true) (hn : Extern.findNext fn = none) (he : Extern.find fn = some sub64E) : SumOK P f (pureSum subF) := by
  refine pureSum_ok fun args v cs hF hc w => .inr ?_
  unfold subF at hF
  split at hF
  · rename_i x y c
    cases hF
    have hx := hc _ (List.mem_singleton.2 rfl)
    simp only [Bool.and_eq_true, decide_eq_true_eq] at hx
    obtain ⟨h1, h2, h2', h3, h4⟩ := hx
    obtain ⟨X, rfl⟩ := Int.eq_ofNat_of_zero_le h1
    obtain ⟨Y, rfl⟩ := Int.eq_ofNat_of_zero_le h2
    obtain ⟨C, rfl⟩ := Int.eq_ofNat_of_zero_le h3
    refine ⟨_, w, ?_, rfl, .refl _ _⟩
    have : ([LV.v (V1.one (At.int .u64 (X : Int))), .v (.one (.int .u64 (Y : Int))), .v (.one (.int .u64 (C : Int)))].map (LV.den E0)).toArray = #[.int .u64 (X : Int), .int .u64 (Y : Int), .int .u64 (C : Int)] := rfl
    rw [this, run_callFunc_extern hf hname hb hn he, run_sub64E X Y C (by omega)]
    have e1 : (((X + 18446744073709551616 - Y - C) % 18446744073709551616 : Nat) : Int) = u64 ((X : Int) - Y - C) := by unfold u64; omega
    have e2 : ((if X < Y + C then 1 else 0 : Nat) : Int) = if (X : Int) < (Y : Int) + (C : Int) then 1 else 0 := by
      by_cases h : X < Y + C
      · rw [if_pos h, if_pos (by omega)]; rfl
      · rw [if_neg h, if_neg (by omega)]; rfl
    rw [e1, e2]
    rfl
  · cases hF

end
end Go.Lr

/- The local evaluator: summaries that the evaluator makes itself. -/
namespace Go.Lr
open Go.RowKit

section
variable {P : Program} {S : FuncId → Option SumK} {z : Md}

/-- Of plain values. -/
def autoP (P : Program) (S : FuncId → Option SumK) (z : Md) (n : Nat) (f : FuncId) : Sum := pureSum fun args =>
  match runF P S z n f args [] 0 [] with
  | some (v, _, _, cs) => some (v, cs)
  | none => none

theorem pureSum_ok' {f : FuncId} {F : List LV → Option (LV × List (Bool × Bool))}
    (h : ∀ args v cs, F args = some (v, cs) → (∀ c ∈ cs, c.1 = c.2) → plainVs args = true → v.ok noP = true → ∀ w, CallOK P f (args.map (LV.den E0)).toArray w fun u w' => u = v.den E0 ∧ Below w.heap.size w w') : SumOK P f (pureSum F) := by
  intro args t g nb p rdB wrB ans ws E w hs hr hw hnd hgo hz hc hrel hg hargs hn
  refine pureSum_ok (F := fun a => if plainVs a = true then (match F a with | some (v, cs) => if v.ok noP = true then some (v, cs) else none | none => none) else none) (fun args v cs hF hc w => ?_) args t g nb p rdB wrB ans ws E w ?_ hr hw hnd hgo hz hc hrel hg hargs hn
  · split at hF
    · rename_i hp
      split at hF
      · rename_i v' cs' hF'
        split at hF
        · rename_i hv
          cases hF
          exact h args v cs hF' hc hp hv w
        · cases hF
      · cases hF
    · cases hF
  · unfold pureSum at hs ⊢
    cases hp : plainVs args with
    | false => rw [hp] at hs; cases hs
    | true =>
      rw [hp] at hs
      simp only [hp, if_true] at hs ⊢
      cases hF : F args with
      | none => rw [hF] at hs; cases hs
      | some q =>
        obtain ⟨v, cs⟩ := q
        rw [hF] at hs
        simp only at hs ⊢
        cases hv : v.ok noP with
        | false => rw [hv] at hs; cases hs
        | true =>
          rw [hv] at hs
          simp only [if_true, hv]
          exact hs

theorem autoP_ok (hs : Sound P S) {n : Nat} {f : FuncId} (ho : Own P f) : SumOK P f (autoP P S z n f) := by
  refine pureSum_ok' fun args v cs hF hc hp hv w => ?_
  split at hF
  · rename_i v' m' nb' cs' hrun
    cases hF
    exact callOK_of ho (calls_of_run hs hrun hc hp hv w)
  · cases hF

/-- A first argument that points into one block. -/
def refTo : LV → Option (Nat × LV)
  | .v (.one (.ptr b o)) => some (b, .v (.one (.ptr 0 o)))
  | .v (.one (.sl b o n c)) => some (b, .v (.one (.sl 0 o n c)))
  | _ => none

theorem refTo_spec {x y : LV} {b : Nat} (h : refTo x = some (b, y)) (E : Env) : x.den E = y.den (fun _ => E b) ∧ y.ok (below 1) = true ∧ ∀ E', y.den E' = y.den fun _ => E' 0 := by
  unfold refTo at h
  split at h <;> first | (cases h; exact ⟨rfl, rfl, fun _ => rfl⟩) | cases h

/-- One block is handed on, and plain values. -/
def autoM (P : Program) (S : FuncId → Option SumK) (z : Md) (n : Nat) (f : FuncId) : Sum := fun args =>
  match args with
  | x :: rest => match refTo x, plainVs rest with
    | some (b, y), true => some ⟨[], [b], fun _ wB _ => match wB with
      | [k] => match okL noP k.cells with
        | true => match runF P S z n f (y :: rest) [(0, k)] 1 [] with
          | some (v, m', _, cs) => match getM m' 0 with
            | some k' => match Nat.beq k'.es k.es, okL noP k'.cells, v.ok noP with
              | true, true, true => some ⟨v, [k'], [], cs⟩
              | _, _, _ => none
            | none => none
          | none => none
        | false => none
      | _ => none⟩
    | _, _ => none
  | [] => none

theorem autoM_ok (hs : Sound P S) {n : Nat} {f : FuncId} (ho : Own P f) : SumOK P f (autoM P S z n f) := by
  intro args t g nb p rdB wrB ans ws E w hs' hr hw _ hgo hz hc hrel hg hargs hn
  unfold autoM at hs'
  split at hs'
  · rename_i x rest
    split at hs'
    · rename_i b y href hp
      cases hs'
      simp only at hgo hw
      split at hgo
      · rename_i k
        split at hgo
        · rename_i hk
          split at hgo
          · rename_i v m' nb' cs hrun
            split at hgo
            · rename_i k' hk'
              split at hgo
              · rename_i hes hok' hv
                cases hgo
                simp only [liveAll] at hw
                split at hw
                · rename_i q r hq hr'
                  cases hr'
                  cases hw
                  simp only [zipW] at hz
                  cases hz
                  rw [nbeq] at hes
                  have hes' : k'.es = k.es := by simpa using hes
                  obtain ⟨r1, r2, r3⟩ := refTo_spec href E
                  have hp' := plainVs_iff.1 hp
                  obtain ⟨s', h1, h2, h3, h4⟩ := runF_body hrun
                  have hget : ∀ i c, getM [(0, k)] i = some c → i = 0 ∧ c = k := by
                    intro i c hc
                    rw [getM_cons] at hc
                    by_cases hi : i = 0
                    · rw [if_pos hi] at hc; cases hc; exact ⟨hi, rfl⟩
                    · rw [if_neg hi] at hc; simp [getM] at hc
                  obtain ⟨v', b1, b2, b3, b4, b5, b6, b7, b8⟩ := (exec_sound (binOK P) hs.sums hs.mix hs.ng n).2.2.2 f (y :: rest) _ _ s' h1 (fun i c hc => by
                    obtain ⟨rfl, rfl⟩ := hget i c hc
                    exact ⟨Nat.zero_lt_one, okL_mono noP_below hk⟩) ⟨rfl, trivial⟩ (fun u hu => by
                    rcases List.mem_cons.1 hu with rfl | hu
                    · exact r2
                    · exact LV.ok_mono noP_below (hp' u hu))
                  cases b1
                  obtain ⟨r0, g1, g2, g3⟩ := hrel.blk b k hq
                  have hmr : MRel (fun _ => E b) ⟨.nil, 0, [(0, k)], 1, [], []⟩ w := by
                    refine ⟨⟨fun i c hc => ?_, fun i j hi hj _ => ?_⟩, fun i c hc => ?_, ⟨rfl, trivial⟩⟩
                    · obtain ⟨rfl, rfl⟩ := hget i c hc
                      exact ⟨r0, by rw [denA_noP hk] at g1 ⊢; exact g1, g2, g3⟩
                    · obtain ⟨c, hc⟩ := Option.isSome_iff_exists.1 hi
                      obtain ⟨d, hd⟩ := Option.isSome_iff_exists.1 hj
                      rw [(hget i c hc).1, (hget j d hd).1]
                    · obtain ⟨rfl, rfl⟩ := hget i c hc
                      exact ⟨Nat.zero_lt_one, okL_mono noP_below hk⟩
                  have hcall := b8 (by rw [Good, h4]; exact hc) (fun _ => E b) w hmr
                  have hargs' : ((y :: rest).map (LV.den fun _ => E b)) = (x :: rest).map (LV.den E) := by
                    rw [List.map_cons, List.map_cons, ← r1, denL_noP hp', denL_noP (E := E) hp']
                  rw [hargs'] at hcall
                  obtain ⟨fn, f1, f2, f3⟩ := ho
                  refine .inl ⟨fn, f1, f2, f3, hcall.mono ?_⟩
                  rintro e w' ⟨E', rfl, hmr', hx⟩
                  refine ⟨_, rfl, E, by rw [den_noP hv, den_noP (E := E) hv], ?_⟩
                  obtain ⟨r', q1, q2, q3⟩ := hmr'.rel.blk 0 k' (by rw [h2]; exact hk')
                  rw [hx.agree 0 (by show 0 < 1; omega)] at q1 q3
                  have hframe : ∀ j, j < w.heap.size → j ≠ (E b).1 → w'.heap[j]? = w.heap[j]? := fun j hj hne => hx.frame j hj fun i hi he => hne he.symm
                  refine ⟨fun _ _ => rfl, ⟨fun i c hic => ?_, fun i j hi hj he => ?_⟩, hx.os, hx.tape, hx.output, hx.size, fun j hj hne => hframe j hj fun e => hne b (by simp [hq]) e.symm, fun i h1 h2 => by simp at h2; omega⟩
                  · simp only [nwG, wrG] at hic
                    by_cases hi : i = b
                    · subst hi
                      rw [if_pos rfl] at hic
                      cases hic
                      exact ⟨r', by rw [denA_noP hok'] at q1 ⊢; exact q1, q2, q3⟩
                    · rw [if_neg hi] at hic
                      obtain ⟨r, u1, u2, u3⟩ := hrel.blk i c hic
                      refine ⟨r, ?_, u2, u3⟩
                      rw [hframe _ (Array.getElem?_eq_some_iff.1 u1).1 (fun e => hi (hrel.inj i b (by simp [hic]) (by simp [hq]) e))]
                      exact u1
                  · simp only [nwG, wrG] at hi hj
                    refine hrel.inj i j ?_ ?_ he
                    · by_cases h1 : i = b
                      · rw [h1]; simp [hq]
                      · simpa [if_neg h1] using hi
                    · by_cases h1 : j = b
                      · rw [h1]; simp [hq]
                      · simpa [if_neg h1] using hj
                · cases hw
              · cases hgo
            · cases hgo
          · cases hgo
        · cases hgo
      · cases hgo
    · cases hs'
  · cases hs'

/-- One summary more. -/
def more (S : FuncId → Option SumK) (f : FuncId) (s : Sum) : FuncId → Option SumK := fun g =>
  match Nat.beq g f with
  | true => some (.old s)
  | false => S g
def moreP (S : FuncId → Option SumK) (f : FuncId) (s : List LV → List (Nat × LV) → Option Tch) : FuncId → Option SumK := fun g =>
  match Nat.beq g f with
  | true => some (.peek s)
  | false => S g

theorem Sound.moreP (h : Sound P S) {f : FuncId} {s : List LV → List (Nat × LV) → Option Tch} (hs : PeekOK P f s) : Sound P (Go.Lr.moreP S f s) := by
  refine ⟨fun g t hg => ?_, h.mix, h.ng⟩
  unfold Go.Lr.moreP at hg
  split at hg
  · rename_i he
    cases hg
    rw [nbeq] at he
    have : g = f := by simpa using he
    subst this
    exact hs
  · exact h.sums g t hg
theorem Sound.more (h : Sound P S) {f : FuncId} {s : Sum} (hs : SumOK P f s) : Sound P (Go.Lr.more S f s) := by
  refine ⟨fun g t hg => ?_, h.mix, h.ng⟩
  unfold Go.Lr.more at hg
  split at hg
  · rename_i he
    cases hg
    rw [nbeq] at he
    have : g = f := by simpa using he
    subst this
    exact hs
  · exact h.sums g t hg

theorem Sound.none (hmix : P.follows .mixedOrders = true) (hng : ∀ (f : FuncId) (fn : Func), P.funcs[f]? = some fn → fn.name ≠ "runtime.NumGoroutine") : Sound P (fun _ => Option.none) :=
  ⟨(fun f s h => by cases h), hmix, hng⟩

/-- A law of plain values, off its run. -/
theorem law_of_run (hs : Sound P S) {n : Nat} {f : FuncId} {args : List LV} {dec : List (Option Bool)} {v : LV} {cs : List (Bool × Bool)} (h : (runF P S z n f args [] 0 dec).map (fun r => (r.1, r.2.2.2)) = some (v, cs))
    (hc : ∀ c ∈ cs, c.1 = c.2) (ha : plainVs args = true) (hv : v.ok noP = true) (w : World) :
    Calls P f (args.map (LV.den E0)).toArray w fun e w' => e = .returned (v.den E0) ∧ Below w.heap.size w w' := by
  cases hr : runF P S z n f args [] 0 dec with
  | none => rw [hr] at h; cases h
  | some q =>
    obtain ⟨v', m', nb', cs'⟩ := q
    rw [hr] at h
    cases h
    exact calls_of_run hs hr hc ha hv w

end
end Go.Lr

/- The local evaluator: contracts of methods on a flag, off their runs. -/
namespace Go.Lr
open Go.RowKit

def A0 : LV := .v (.one (.ptr 0 0))

section
variable {P : Program} {S : FuncId → Option SumK} {z : Md}

theorem acc_run (hs : Sound P S) {n : Nat} {f : FuncId} {args : List LV} {dec : List (Option Bool)} {v : LV} {cs : List (Bool × Bool)} {ty : TypeId} {h h' : Bool}
    (hrun : (runF P S z n f (A0 :: args) [(0, flag ty h)] 1 dec).map (fun r => (r.1, getM r.2.1 0, r.2.2.2)) = some (v, some (flag ty h'), cs)) (hc : ∀ c ∈ cs, c.1 = c.2) (ha : plainVs args = true) (hv : v.ok noP = true)
    (w : World) (b : Nat) (hb : w.heap[b]? = some (flagO ty h)) :
    Calls P f (Value.pointer (some ⟨b, 0, none⟩) :: args.map (LV.den E0)).toArray w fun e w' => e = .returned (v.den E0) ∧ Turned b (flagO ty h') w w' := by
  cases hr : runF P S z n f (A0 :: args) [(0, flag ty h)] 1 dec with
  | none => rw [hr] at hrun; cases hrun
  | some q =>
    obtain ⟨v', m', nb', cs'⟩ := q
    rw [hr] at hrun
    simp only [Option.map_some, Option.some.injEq, Prod.mk.injEq] at hrun
    obtain ⟨rfl, hm, rfl⟩ := hrun
    exact acc_of_run hs hr hm hc ha hv w b hb

/-- A run at every value of the flag, path by path: 'the values lead here'. -/
theorem accSum_run (hs : Sound P S) {f : FuncId} (ho : Own P f) {ty : TypeId} {F : List LV → Bool → Option (LV × Bool × List (Bool × Bool))}
    (h : ∀ args hb v h' cs, F args hb = some (v, h', cs) → (∀ c ∈ cs, c.1 = c.2) → v.ok noP = true ∧ ∃ (n : Nat) (dec : List (Option Bool)) (cs' : List (Bool × Bool)),
      (runF P S z n f (A0 :: args) [(0, flag ty hb)] 1 dec).map (fun r => (r.1, getM r.2.1 0, r.2.2.2)) = some (v, some (flag ty h'), cs') ∧ ∀ c ∈ cs', c.1 = c.2) : SumOK P f (accSum ty F) := by
  refine accSum_ok fun args hb v h' cs hF hc hp w b hbk => ?_
  obtain ⟨hv, n, dec, cs', hrun, hc'⟩ := h args hb v h' cs hF hc
  exact callOK_of ho (acc_run hs hrun hc' hp hv w b hbk)

/-- The like for plain values. -/
theorem pureSum_run (hs : Sound P S) {f : FuncId} (ho : Own P f) {F : List LV → Option (LV × List (Bool × Bool))}
    (h : ∀ args v cs, F args = some (v, cs) → (∀ c ∈ cs, c.1 = c.2) → ∃ (n : Nat) (dec : List (Option Bool)) (cs' : List (Bool × Bool)),
      (runF P S z n f args [] 0 dec).map (fun r => (r.1, r.2.2.2)) = some (v, cs') ∧ ∀ c ∈ cs', c.1 = c.2) : SumOK P f (pureSum F) := by
  refine pureSum_ok' fun args v cs hF hc hp hv w => ?_
  obtain ⟨n, dec, cs', hrun, hc'⟩ := h args v cs hF hc
  exact callOK_of ho (law_of_run hs hrun hc' hp hv w)

/-- A law's run: its answer, and what is asked on the way. -/
theorem law_true (hs : Sound P S) {n : Nat} {f : FuncId} {args : List LV} {dec : List (Option Bool)} {t : Bool} {cs : List (Bool × Bool)} (h : (runF P S z n f args [] 0 dec).map (fun r => (r.1, r.2.2.2)) = some (.v (.one (.bool t)), cs))
    (ht : t = true) (hc : ∀ c ∈ cs, c.1 = c.2) (ha : plainVs args = true) (w : World) :
    Calls P f (args.map (LV.den E0)).toArray w fun e w' => e = .returned (.bool true) ∧ Below w.heap.size w w' := by
  subst ht
  exact law_of_run hs h hc ha rfl w

/-- A closed law, called by another: its answer is known. -/
theorem pureSum_const (hs : Sound P S) {f : FuncId} (ho : Own P f) {n : Nat} {v : LV} (h : (runF P S z n f [] [] 0 []).map (fun r => (r.1, r.2.2.2)) = some (v, [])) :
    SumOK P f (pureSum fun args => match args with | [] => some (v, []) | _ => none) := by
  refine pureSum_run (z := z) hs ho fun args u cs hF _ => ?_
  split at hF
  · cases hF
    exact ⟨n, [], [], h, by simp⟩
  · cases hF

end
end Go.Lr

/- This seat's program: what the evaluator leans on; math/bits' two that the model answers. -/
namespace Go.Proofs.Ytnabopepomjncaa
open Go.Lr

theorem ngAll : (Try.prog.funcs.toList.all fun fn => fn.name != "runtime.NumGoroutine") = true := by kernel_rfl
theorem ng : ∀ (f : FuncId) (fn : Func), Try.prog.funcs[f]? = some fn → fn.name ≠ "runtime.NumGoroutine" := by
  intro f fn h
  have := List.all_eq_true.1 ngAll fn (by
    have h' : Try.prog.funcs.toList[f]? = some fn := by simpa using h
    exact List.mem_of_getElem? h')
  simpa using this
theorem mix : Try.prog.follows .mixedOrders = true := by kernel_rfl

theorem sumAdd64 : SumOK Try.prog 143 (pureSum addF) := add64_ok Try.func143 (by kernel_rfl) (by kernel_rfl) (by kernel_rfl) (by kernel_rfl)
theorem sumSub64 : SumOK Try.prog 154 (pureSum subF) := sub64_ok Try.func154 (by kernel_rfl) (by kernel_rfl) (by kernel_rfl) (by kernel_rfl)

def S0 : FuncId → Option SumK := more (more (fun _ => none) 143 (pureSum addF)) 154 (pureSum subF)
theorem sound0 : Sound Try.prog S0 := ((Sound.none mix ng).more sumAdd64).more sumSub64

/-- Closed runs: every number is known. -/
def Zc : Md := ⟨true, true, false⟩
/-- Runs of numbers that are not known; by the list; without cutting short. -/
def Zl : Md := ⟨false, true, false⟩
def Za : Md := ⟨false, true, true⟩
noncomputable def S1 : FuncId → Option SumK :=
  more (more (more (more (more (more (more S0 54 (autoP Try.prog S0 Zc 2000 54)) 114 (autoP Try.prog S0 Zc 2000 114)) 116 (autoP Try.prog S0 Zc 2000 116)) 113 (autoP Try.prog S0 Zc 2000 113))
    53 (autoP Try.prog S0 Zc 2000 53)) 12 (autoM Try.prog S0 Zc 2000 12)) 52 (autoM Try.prog S0 Zc 2000 52)
theorem sound1 : Sound Try.prog S1 :=
  ((((((sound0.more (autoP_ok sound0 (own_of sound0 Try.func54 (by kernel_rfl)))).more (autoP_ok sound0 (own_of sound0 Try.func114 (by kernel_rfl)))).more (autoP_ok sound0 (own_of sound0 Try.func116 (by kernel_rfl)))).more
    (autoP_ok sound0 (own_of sound0 Try.func113 (by kernel_rfl)))).more (autoP_ok sound0 (own_of sound0 Try.func53 (by kernel_rfl)))).more (autoM_ok sound0 (own_of sound0 Try.func12 (by kernel_rfl)))).more
    (autoM_ok sound0 (own_of sound0 Try.func52 (by kernel_rfl)))

def I (n : Int) : LV := .v (.one (.int .i64 n))
def B (b : Bool) : LV := .v (.one (.bool b))
end Go.Proofs.Ytnabopepomjncaa

/- fx: Clamp, Sat; astrolabelaw2's awake. -/
namespace Go.Proofs.Ytnabopepomjncaa
open Go.Lr

def MX : Int := 1152921504606846976

def clampV (a lo hi : Int) : Int := if lo > hi then lo else if a < lo then lo else if a > hi then hi else a
def clampH (a lo hi : Int) : Bool := decide (lo > hi) || decide (a < lo) || decide (a > hi)

def clampF : List LV → Bool → Option (LV × Bool × List (Bool × Bool))
  | [.v (.one (.int .i64 a)), .v (.one (.int .i64 lo)), .v (.one (.int .i64 hi))], h => some (I (clampV a lo hi), h || clampH a lo hi, [])
  | _, _ => none

abbrev acc3 (r : LV × Mem × Nat × List (Bool × Bool)) := (r.1, getM r.2.1 0, r.2.2.2)

theorem clamp1 (a lo hi : Int) (h : Bool) : (runF Try.prog S0 Zl 200 13 [A0, I a, I lo, I hi] [(0, flag 26 h)] 1 [some true]).map acc3 = some (I lo, some (flag 26 true), [(decide (lo > hi), true)]) := by kernel_rfl
theorem clamp2 (a lo hi : Int) (h : Bool) : (runF Try.prog S0 Zl 200 13 [A0, I a, I lo, I hi] [(0, flag 26 h)] 1 [some false, some true]).map acc3 = some (I lo, some (flag 26 true), [(decide (a < lo), true), (decide (lo > hi), false)]) := by kernel_rfl
theorem clamp3 (a lo hi : Int) (h : Bool) : (runF Try.prog S0 Zl 200 13 [A0, I a, I lo, I hi] [(0, flag 26 h)] 1 [some false, some false, some true]).map acc3 = some (I hi, some (flag 26 true), [(decide (a > hi), true), (decide (a < lo), false), (decide (lo > hi), false)]) := by kernel_rfl
theorem clamp4 (a lo hi : Int) (h : Bool) : (runF Try.prog S0 Zl 200 13 [A0, I a, I lo, I hi] [(0, flag 26 h)] 1 [some false, some false, some false]).map acc3 = some (I a, some (flag 26 h), [(decide (a > hi), false), (decide (a < lo), false), (decide (lo > hi), false)]) := by kernel_rfl

theorem sumClamp : SumOK Try.prog 13 (accSum 26 clampF) := by
  refine accSum_run (z := Zl) sound0 (own_of sound0 Try.func13 (by kernel_rfl)) fun args hb v h' cs hF _ => ?_
  unfold clampF at hF
  split at hF
  · rename_i a lo hi
    cases hF
    refine ⟨rfl, ?_⟩
    by_cases h1 : lo > hi
    · rw [show clampV a lo hi = lo by simp [clampV, h1], show (hb || clampH a lo hi) = true by simp [clampH, h1]]
      exact ⟨200, [some true], _, clamp1 a lo hi hb, by simp [h1]⟩
    · by_cases h2 : a < lo
      · rw [show clampV a lo hi = lo by simp [clampV, h2], show (hb || clampH a lo hi) = true by simp [clampH, h2]]
        exact ⟨200, [some false, some true], _, clamp2 a lo hi hb, by simp [h2]; omega⟩
      · by_cases h3 : a > hi
        · rw [show clampV a lo hi = hi by simp [clampV, h1, h2, h3], show (hb || clampH a lo hi) = true by simp [clampH, h3]]
          exact ⟨200, [some false, some false, some true], _, clamp3 a lo hi hb, by simp [h3]; omega⟩
        · rw [show clampV a lo hi = a by simp [clampV, h1, h2, h3], show (hb || clampH a lo hi) = hb by simp [clampH, h1, h2, h3]]
          exact ⟨200, [some false, some false, some false], _, clamp4 a lo hi hb, by simp; omega⟩
  · cases hF

def S2 : FuncId → Option SumK := more S0 13 (accSum 26 clampF)
theorem sound2 : Sound Try.prog S2 := sound0.more sumClamp

def satV (a : Int) : Int := clampV a (-1152921504606846976) 1152921504606846976
def satH (a : Int) : Bool := clampH a (-1152921504606846976) 1152921504606846976
def satF : List LV → Bool → Option (LV × Bool × List (Bool × Bool))
  | [.v (.one (.int .i64 a))], h => some (I (satV a), h || satH a, [])
  | _, _ => none
theorem sat1 (a : Int) (h : Bool) : (runF Try.prog S2 Zl 200 12 [A0, I a] [(0, flag 26 h)] 1 []).map acc3 = some (I (satV a), some (flag 26 (h || satH a)), []) := by kernel_rfl
theorem sumSat : SumOK Try.prog 12 (accSum 26 satF) := by
  refine accSum_run (z := Zl) sound2 (own_of sound2 Try.func12 (by kernel_rfl)) fun args hb v h' cs hF _ => ?_
  unfold satF at hF
  split at hF
  · rename_i a
    cases hF
    exact ⟨rfl, 200, [], _, sat1 a hb, by simp⟩
  · cases hF

def trueF : List LV → Option (LV × List (Bool × Bool)) := fun args => match args with | [] => some (B true, []) | _ => none
end Go.Proofs.Ytnabopepomjncaa

/- math/bits.Mul64, wide.Of, wide.Mul, by their runs. -/
namespace Go.Proofs.Ytnabopepomjncaa
open Go.Lr

theorem runMul64 (x y : Int) : (runF Try.prog S0 Zl 200 109 [.v (.one (.int .u64 x)), .v (.one (.int .u64 y))] [] 0 []).map (fun r => (r.1, r.2.2.2)) = some (LV.tup [V1.one (At.int IntKind.u64 (wr IntKind.u64 (wr IntKind.u64 (wr IntKind.u64 (x / pow2 (min (Int.toNat 32) IntKind.u64.bits) * (y / pow2 (min (Int.toNat 32) IntKind.u64.bits))) + wr IntKind.u64 (wr IntKind.u64 (x / pow2 (min (Int.toNat 32) IntKind.u64.bits) * Int.ofNat ((u64 y).toNat.land (u64 4294967295).toNat)) + wr IntKind.u64 (Int.ofNat ((u64 x).toNat.land (u64 4294967295).toNat) * Int.ofNat ((u64 y).toNat.land (u64 4294967295).toNat)) / pow2 (min (Int.toNat 32) IntKind.u64.bits)) / pow2 (min (Int.toNat 32) IntKind.u64.bits)) + wr IntKind.u64 (Int.ofNat ((u64 (wr IntKind.u64 (wr IntKind.u64 (x / pow2 (min (Int.toNat 32) IntKind.u64.bits) * Int.ofNat ((u64 y).toNat.land (u64 4294967295).toNat)) + wr IntKind.u64 (Int.ofNat ((u64 x).toNat.land (u64 4294967295).toNat) * Int.ofNat ((u64 y).toNat.land (u64 4294967295).toNat)) / pow2 (min (Int.toNat 32) IntKind.u64.bits)))).toNat.land (u64 4294967295).toNat) + wr IntKind.u64 (Int.ofNat ((u64 x).toNat.land (u64 4294967295).toNat) * (y / pow2 (min (Int.toNat 32) IntKind.u64.bits)))) / pow2 (min (Int.toNat 32) IntKind.u64.bits)))), V1.one (At.int IntKind.u64 (wr IntKind.u64 (x * y)))], []) := by kernel_rfl

/-- Is it a number of 64 bits without a sign? -/
def isU (x : Int) : Bool := decide (0 ≤ x) && decide (x < 18446744073709551616)
def isI (x : Int) : Bool := decide (-9223372036854775808 ≤ x) && decide (x < 9223372036854775808)
theorem isU_iff {x : Int} : isU x = true ↔ 0 ≤ x ∧ x < 18446744073709551616 := by simp [isU]
theorem isI_iff {x : Int} : isI x = true ↔ -9223372036854775808 ≤ x ∧ x < 9223372036854775808 := by simp [isI]

def mul64F : List LV → Option (LV × List (Bool × Bool))
  | [.v (.one (.int .u64 x)), .v (.one (.int .u64 y))] => some (.tup [.one (.int .u64 (x * y / 18446744073709551616)), .one (.int .u64 (x * y % 18446744073709551616))], [(isU x, true), (isU y, true)])
  | _ => none

theorem sumMul64 : SumOK Try.prog 109 (pureSum mul64F) := by
  refine pureSum_run (z := Zl) sound0 (own_of sound0 Try.func109 (by kernel_rfl)) fun args v cs hF hc => ?_
  unfold mul64F at hF
  split at hF
  · rename_i x y
    cases hF
    obtain ⟨hx0, hx1⟩ := isU_iff.1 (hc (isU x, true) (by simp))
    obtain ⟨hy0, hy1⟩ := isU_iff.1 (hc (isU y, true) (by simp))
    have h := runMul64 x y
    simp only [wr_u, pow2_32u] at h
    have hm : 0 ≤ u64 (u64 (x / 4294967296 * Int.ofNat ((u64 y).toNat.land (u64 4294967295).toNat)) + u64 (Int.ofNat ((u64 x).toNat.land (u64 4294967295).toNat) * Int.ofNat ((u64 y).toNat.land (u64 4294967295).toNat)) / 4294967296) ∧
        u64 (u64 (x / 4294967296 * Int.ofNat ((u64 y).toNat.land (u64 4294967295).toNat)) + u64 (Int.ofNat ((u64 x).toNat.land (u64 4294967295).toNat) * Int.ofNat ((u64 y).toNat.land (u64 4294967295).toNat)) / 4294967296) < 18446744073709551616 := by
      generalize u64 (x / 4294967296 * Int.ofNat ((u64 y).toNat.land (u64 4294967295).toNat)) + u64 (Int.ofNat ((u64 x).toNat.land (u64 4294967295).toNat) * Int.ofNat ((u64 y).toNat.land (u64 4294967295).toNat)) / 4294967296 = t
      unfold u64; omega
    rw [land32 _ hm.1 hm.2, land32 x hx0 hx1, land32 y hy0 hy1, mulHi x y hx0 hx1 hy0 hy1] at h
    exact ⟨200, [], [], h, by simp⟩
  · cases hF

def W1 (v : Int) : V1 := .agg [.int .i64 (wHi v), .int .u64 (wLo v)]


def S4 : FuncId → Option SumK := more S0 109 (pureSum mul64F)
theorem sound4 : Sound Try.prog S4 := sound0.more sumMul64
end Go.Proofs.Ytnabopepomjncaa

/- wide's helpers: abs64, signed, by their runs. -/
namespace Go.Proofs.Ytnabopepomjncaa
open Go.Lr
theorem runSgP (x y : Int) : (runF Try.prog S4 Za 200 111 [.v (.agg [.int .u64 x, .int .u64 y]), B false] [] 0 []).map (fun r => (r.1, r.2.2.2)) = some (LV.tup [V1.agg [At.int IntKind.i64 (wr IntKind.i64 x), At.int IntKind.u64 y], V1.one (At.bool (x / pow2 (min (Int.toNat 63) IntKind.u64.bits) == 0))], []) := by kernel_rfl
theorem runSgN (x y : Int) : (runF Try.prog S4 Za 200 111 [.v (.agg [.int .u64 x, .int .u64 y]), B true] [] 0 [none]).map (fun r => (r.1, r.2.2.2)) = some (LV.tup [V1.agg [At.int IntKind.i64 (wr IntKind.i64 (wr IntKind.u64 (Int.ofNat ((u64 (-1)).toNat.xor (u64 x).toNat) + (Int.ofNat ((u64 (-1)).toNat.xor (u64 y).toNat) + 1 + 0) / 18446744073709551616))), At.int IntKind.u64 (u64 (Int.ofNat ((u64 (-1)).toNat.xor (u64 y).toNat) + 1 + 0))], V1.one (At.bool (x == 0 && (y == 0 && true)))], [(decide (wr IntKind.i64 (wr IntKind.u64 (Int.ofNat ((u64 (-1)).toNat.xor (u64 x).toNat) + (Int.ofNat ((u64 (-1)).toNat.xor (u64 y).toNat) + 1 + 0) / 18446744073709551616)) < 0), false), (decide (wr IntKind.i64 (wr IntKind.u64 (Int.ofNat ((u64 (-1)).toNat.xor (u64 x).toNat) + (Int.ofNat ((u64 (-1)).toNat.xor (u64 y).toNat) + 1 + 0) / 18446744073709551616)) < 0), false), (decide (wr IntKind.i64 (wr IntKind.u64 (Int.ofNat ((u64 (-1)).toNat.xor (u64 x).toNat) + (Int.ofNat ((u64 (-1)).toNat.xor (u64 y).toNat) + 1 + 0) / 18446744073709551616)) < 0), false), (decide (wr IntKind.i64 (wr IntKind.u64 (Int.ofNat ((u64 (-1)).toNat.xor (u64 x).toNat) + (Int.ofNat ((u64 (-1)).toNat.xor (u64 y).toNat) + 1 + 0) / 18446744073709551616)) < 0), false), (decide (0 ≤ Int.ofNat ((u64 (-1)).toNat.xor (u64 y).toNat)) && (decide (0 ≤ 1) && (decide (0 ≤ 0) && decide (0 ≤ 1))), true)]) := by kernel_rfl
theorem runSgT (x y : Int) : (runF Try.prog S4 Za 200 111 [.v (.agg [.int .u64 x, .int .u64 y]), B true] [] 0 [none, some true, some true, some true, some true, some true]).map (fun r => (r.1, r.2.2.2)) = some (LV.tup [V1.agg [At.int IntKind.i64 (wr IntKind.i64 (wr IntKind.u64 (Int.ofNat ((u64 (-1)).toNat.xor (u64 x).toNat) + (Int.ofNat ((u64 (-1)).toNat.xor (u64 y).toNat) + 1 + 0) / 18446744073709551616))), At.int IntKind.u64 (u64 (Int.ofNat ((u64 (-1)).toNat.xor (u64 y).toNat) + 1 + 0))], V1.one (At.bool true)], [(decide (wr IntKind.i64 (wr IntKind.u64 (Int.ofNat ((u64 (-1)).toNat.xor (u64 x).toNat) + (Int.ofNat ((u64 (-1)).toNat.xor (u64 y).toNat) + 1 + 0) / 18446744073709551616)) < 0), true), (decide (wr IntKind.i64 (wr IntKind.u64 (Int.ofNat ((u64 (-1)).toNat.xor (u64 x).toNat) + (Int.ofNat ((u64 (-1)).toNat.xor (u64 y).toNat) + 1 + 0) / 18446744073709551616)) < 0), true), (decide (wr IntKind.i64 (wr IntKind.u64 (Int.ofNat ((u64 (-1)).toNat.xor (u64 x).toNat) + (Int.ofNat ((u64 (-1)).toNat.xor (u64 y).toNat) + 1 + 0) / 18446744073709551616)) < 0), true), (decide (wr IntKind.i64 (wr IntKind.u64 (Int.ofNat ((u64 (-1)).toNat.xor (u64 x).toNat) + (Int.ofNat ((u64 (-1)).toNat.xor (u64 y).toNat) + 1 + 0) / 18446744073709551616)) < 0), true), (decide (0 ≤ Int.ofNat ((u64 (-1)).toNat.xor (u64 y).toNat)) && (decide (0 ≤ 1) && (decide (0 ≤ 0) && decide (0 ≤ 1))), true)]) := by kernel_rfl
theorem runAbN (a : Int) : (runF Try.prog S4 Zl 200 110 [I a] [] 0 [some true]).map (fun r => (r.1, r.2.2.2)) = some (LV.v (V1.one (At.int IntKind.u64 (wr IntKind.u64 (0 - wr IntKind.u64 a)))), [(decide (a < 0), true)]) := by kernel_rfl
theorem runAbP (a : Int) : (runF Try.prog S4 Zl 200 110 [I a] [] 0 [some false]).map (fun r => (r.1, r.2.2.2)) = some (LV.v (V1.one (At.int IntKind.u64 (wr IntKind.u64 a))), [(decide (a < 0), false)]) := by kernel_rfl

def absF : List LV → Option (LV × List (Bool × Bool))
  | [.v (.one (.int .i64 a))] => some (.v (.one (.int .u64 (absV a))), [(isI a, true)])
  | _ => none
theorem sumAbs64 : SumOK Try.prog 110 (pureSum absF) := by
  refine pureSum_run (z := Zl) sound4 (own_of sound4 Try.func110 (by kernel_rfl)) fun args v cs hF hc => ?_
  unfold absF at hF
  split at hF
  · rename_i a
    cases hF
    obtain ⟨h0, h1⟩ := isI_iff.1 (hc (isI a, true) (by simp))
    by_cases ha : a < 0
    · rw [show absV a = -a from if_pos ha]
      have h := runAbN a
      rw [show wr .u64 (0 - wr .u64 a) = -a by simp only [wr_u]; unfold u64; omega] at h
      exact ⟨200, [some true], _, h, by simp [ha]⟩
    · rw [show absV a = a from if_neg ha]
      have h := runAbP a
      rw [show wr .u64 a = a by simp only [wr_u]; unfold u64; omega] at h
      exact ⟨200, [some false], _, h, by simp; omega⟩
  · cases hF

/-- Is it a number of 128 bits? -/
def isW (v : Int) : Bool := decide (-170141183460469231731687303715884105728 ≤ v) && decide (v < 170141183460469231731687303715884105728)
def signedF : List LV → Option (LV × List (Bool × Bool))
  | [.v (.agg [.int .u64 x, .int .u64 y]), .v (.one (.bool neg))] =>
    some (.tup [.agg [.int .i64 (w64 (wHi (sgn neg (wVal x y)))), .int .u64 (wLo (sgn neg (wVal x y)))], .one (.bool (isW (sgn neg (wVal x y))))], [(isU x, true), (isU y, true)])
  | _ => none

theorem sgL {a a' b b' : Int} {c c' : Bool} (cs : List (Bool × Bool)) (h1 : a = a') (h2 : b = b') (h3 : c = c') :
    some (LV.tup [V1.agg [At.int .i64 a, At.int .u64 b], V1.one (At.bool c)], cs) = some (LV.tup [V1.agg [At.int .i64 a', At.int .u64 b'], V1.one (At.bool c')], cs) := by
  subst h1; subst h2; subst h3; rfl
theorem isW_iff {v : Int} : isW v = true ↔ -170141183460469231731687303715884105728 ≤ v ∧ v < 170141183460469231731687303715884105728 := by simp [isW]
theorem neg_lo (x y : Int) :
    u64 (18446744073709551615 - y + 1 + 0) = wLo (-(wVal x y)) := by unfold u64 wLo wVal; omega
theorem neg_hi (x y : Int) :
    w64 (u64 (18446744073709551615 - x + (18446744073709551615 - y + 1 + 0) / 18446744073709551616)) = w64 (wHi (-(wVal x y))) := by unfold w64 u64 wHi wVal; omega
theorem neg_lt (x y : Int) (hx0 : 0 ≤ x) (hx1 : x < 18446744073709551616) (h0 : 0 ≤ y) (h1 : y < 18446744073709551616)
    (h : w64 (wHi (-(wVal x y))) < 0) : -170141183460469231731687303715884105728 ≤ -(wVal x y) ∧ -(wVal x y) < 170141183460469231731687303715884105728 := by
  revert h; unfold w64 wHi wVal; omega
theorem neg_ge (x y : Int) (hx0 : 0 ≤ x) (hx1 : x < 18446744073709551616) (h0 : 0 ≤ y) (h1 : y < 18446744073709551616)
    (h : ¬ w64 (wHi (-(wVal x y))) < 0) : (-170141183460469231731687303715884105728 ≤ -(wVal x y) ∧ -(wVal x y) < 170141183460469231731687303715884105728) ↔ (x = 0 ∧ y = 0) := by
  revert h; unfold w64 wHi wVal; omega
theorem pos_ok (x y : Int) (hx0 : 0 ≤ x) (hx1 : x < 18446744073709551616) (h0 : 0 ≤ y) (h1 : y < 18446744073709551616) :
    x / 9223372036854775808 = 0 ↔ (-170141183460469231731687303715884105728 ≤ wVal x y ∧ wVal x y < 170141183460469231731687303715884105728) := by
  unfold wVal; omega

theorem sumSigned : SumOK Try.prog 111 (pureSum signedF) := by
  refine pureSum_run (z := Za) sound4 (own_of sound4 Try.func111 (by kernel_rfl)) fun args v cs hF hc => ?_
  unfold signedF at hF
  split at hF
  · rename_i x y neg
    cases hF
    obtain ⟨hx0, hx1⟩ := isU_iff.1 (hc (isU x, true) (by simp))
    obtain ⟨hy0, hy1⟩ := isU_iff.1 (hc (isU y, true) (by simp))
    cases neg with
    | false =>
      have h := runSgP x y
      refine ⟨200, [], [], h.trans (sgL [] ?_ ?_ ?_), by simp⟩
      · show w64 x = w64 (wHi (wVal x y)); rw [hi_mk x y hy0 hy1]
      · show y = wLo (wVal x y); rw [lo_mk x y hy0 hy1]
      · show (x / 9223372036854775808 == 0) = isW (wVal x y)
        rw [Bool.eq_iff_iff, isW_iff, beq_iff_eq]
        exact pos_ok x y hx0 hx1 hy0 hy1
    | true =>
      have hs : sgn true (wVal x y) = -(wVal x y) := rfl
      rw [hs]
      by_cases hn : w64 (wHi (-(wVal x y))) < 0
      · have h := runSgT x y
        simp only [wr_u, wr_i, lnot x hx0 hx1, lnot y hy0 hy1, neg_hi x y, neg_lo x y] at h
        refine ⟨200, _, _, h.trans (sgL _ rfl rfl ?_), ?_⟩
        · symm; exact isW_iff.2 (neg_lt x y hx0 hx1 hy0 hy1 hn)
        · simp [hn]; omega
      · have h := runSgN x y
        simp only [wr_u, wr_i, lnot x hx0 hx1, lnot y hy0 hy1, neg_hi x y, neg_lo x y] at h
        refine ⟨200, _, _, h.trans (sgL _ rfl rfl ?_), ?_⟩
        · show (x == 0 && (y == 0 && true)) = isW (-(wVal x y))
          rw [Bool.eq_iff_iff, isW_iff, neg_ge x y hx0 hx1 hy0 hy1 hn]; simp
        · simp [hn]; omega
  · cases hF
def S5 : FuncId → Option SumK := more (more S4 110 (pureSum absF)) 111 (pureSum signedF)
theorem sound5 : Sound Try.prog S5 := (sound4.more sumAbs64).more sumSigned
end Go.Proofs.Ytnabopepomjncaa

/- Small laws for the printed proofs. -/
namespace Go.Lr
theorem ae_nil : ∀ c ∈ ([] : List (Bool × Bool)), c.1 = c.2 := fun _ h => nomatch h
theorem ae_cons {a b : Bool} {l : List (Bool × Bool)} (h : a = b) (hl : ∀ c ∈ l, c.1 = c.2) : ∀ d ∈ (a, b) :: l, d.1 = d.2 := fun d hd => by
  cases hd with
  | head => exact h
  | tail _ h => exact hl d h
theorem hd_of {a b : Bool} {l : List (Bool × Bool)} (h : ∀ c ∈ (a, b) :: l, c.1 = c.2) : a = b := h (a, b) (.head _)
theorem tl_of {c : Bool × Bool} {l : List (Bool × Bool)} (h : ∀ d ∈ c :: l, d.1 = d.2) : ∀ d ∈ l, d.1 = d.2 := fun d hd => h d (.tail _ hd)
theorem bool_cases (b : Bool) : b = true ∨ b = false := by cases b <;> simp
theorem cond_t {α : Type} {c : Bool} {a b : α} (h : c = true) : (bif c then a else b) = a := by subst h; rfl
theorem cond_f {α : Type} {c : Bool} {a b : α} (h : c = false) : (bif c then a else b) = b := by subst h; rfl
end Go.Lr

/- wide: the small functions, by every path of their runs (printed by contract.py). -/
namespace Go.Proofs.Ytnabopepomjncaa
open Go.Lr

theorem wabsR1 (x y : Int) : (runF Try.prog S5 Zl 2000 112 [.v (.agg [.int .i64 x, .int .u64 y])] [] 0 [some true]).map (fun r => (r.1, r.2.2.2)) = some (LV.tup [V1.agg [At.int IntKind.u64 (wr IntKind.u64 x), At.int IntKind.u64 y], V1.one (At.bool false)], [(decide (x ≥ 0), true)]) := by kernel_rfl
theorem wabsR2 (x y : Int) : (runF Try.prog S5 Zl 2000 112 [.v (.agg [.int .i64 x, .int .u64 y])] [] 0 [some false]).map (fun r => (r.1, r.2.2.2)) = some (LV.tup [V1.agg [At.int IntKind.u64 (wr IntKind.u64 (Int.ofNat ((u64 (-1)).toNat.xor (u64 (wr IntKind.u64 x)).toNat) + (Int.ofNat ((u64 (-1)).toNat.xor (u64 y).toNat) + 1 + 0) / 18446744073709551616)), At.int IntKind.u64 (u64 (Int.ofNat ((u64 (-1)).toNat.xor (u64 y).toNat) + 1 + 0))], V1.one (At.bool true)], [(decide (0 ≤ Int.ofNat ((u64 (-1)).toNat.xor (u64 y).toNat)) && (decide (0 ≤ 1) && (decide (0 ≤ 0) && decide (0 ≤ 1))), true), (decide (x ≥ 0), false)]) := by kernel_rfl
def wabsT (x y : Int) : Option (LV × List (Bool × Bool)) := 
  bif (decide (x ≥ 0)) then some (LV.tup [V1.agg [At.int IntKind.u64 (wr IntKind.u64 x), At.int IntKind.u64 y], V1.one (At.bool false)], [])
  else some (LV.tup [V1.agg [At.int IntKind.u64 (wr IntKind.u64 (Int.ofNat ((u64 (-1)).toNat.xor (u64 (wr IntKind.u64 x)).toNat) + (Int.ofNat ((u64 (-1)).toNat.xor (u64 y).toNat) + 1 + 0) / 18446744073709551616)), At.int IntKind.u64 (u64 (Int.ofNat ((u64 (-1)).toNat.xor (u64 y).toNat) + 1 + 0))], V1.one (At.bool true)], [(decide (0 ≤ Int.ofNat ((u64 (-1)).toNat.xor (u64 y).toNat)) && (decide (0 ≤ 1) && (decide (0 ≤ 0) && decide (0 ≤ 1))), true)])
def wabsF : List LV → Option (LV × List (Bool × Bool))
  | [.v (.agg [.int .i64 x, .int .u64 y])] => wabsT x y
  | _ => none
theorem sumwabs : SumOK Try.prog 112 (pureSum wabsF) := by
  refine pureSum_run (z := Zl) sound5 (own_of sound5 Try.func112 (by kernel_rfl)) fun args v cs hF hc => ?_
  unfold wabsF at hF
  split at hF
  · rename_i x y
    unfold wabsT at hF
    rcases bool_cases (decide (x ≥ 0)) with h0 | h0
    · rw [cond_t h0] at hF
      cases hF
      exact ⟨2000, [some true], _, wabsR1 x y, ae_cons (h0) (ae_nil)⟩
    · rw [cond_f h0] at hF
      cases hF
      exact ⟨2000, [some false], _, wabsR2 x y, ae_cons (hd_of (hc)) (ae_cons (h0) (ae_nil))⟩
  · cases hF

theorem wplusR1 (x y x' y' : Int) : (runF Try.prog S5 Zl 2000 113 [.v (.agg [.int .u64 x, .int .u64 y]), .v (.agg [.int .u64 x', .int .u64 y'])] [] 0 []).map (fun r => (r.1, r.2.2.2)) = some (LV.v (V1.agg [At.int IntKind.u64 (u64 (x + x' + (y + y' + 0) / 18446744073709551616)), At.int IntKind.u64 (u64 (y + y' + 0))]), [(decide (0 ≤ x) && (decide (0 ≤ x') && (decide (0 ≤ (y + y' + 0) / 18446744073709551616) && decide ((y + y' + 0) / 18446744073709551616 ≤ 1))), true), (decide (0 ≤ y) && (decide (0 ≤ y') && (decide (0 ≤ 0) && decide (0 ≤ 1))), true)]) := by kernel_rfl
def wplusT (x y x' y' : Int) : Option (LV × List (Bool × Bool)) := some (LV.v (V1.agg [At.int IntKind.u64 (u64 (x + x' + (y + y' + 0) / 18446744073709551616)), At.int IntKind.u64 (u64 (y + y' + 0))]), [(decide (0 ≤ x) && (decide (0 ≤ x') && (decide (0 ≤ (y + y' + 0) / 18446744073709551616) && decide ((y + y' + 0) / 18446744073709551616 ≤ 1))), true), (decide (0 ≤ y) && (decide (0 ≤ y') && (decide (0 ≤ 0) && decide (0 ≤ 1))), true)])
def wplusF : List LV → Option (LV × List (Bool × Bool))
  | [.v (.agg [.int .u64 x, .int .u64 y]), .v (.agg [.int .u64 x', .int .u64 y'])] => wplusT x y x' y'
  | _ => none
theorem sumwplus : SumOK Try.prog 113 (pureSum wplusF) := by
  refine pureSum_run (z := Zl) sound5 (own_of sound5 Try.func113 (by kernel_rfl)) fun args v cs hF hc => ?_
  unfold wplusF at hF
  split at hF
  · rename_i x y x' y'
    unfold wplusT at hF
    cases hF
    exact ⟨2000, [], _, wplusR1 x y x' y', ae_cons (hd_of (hc)) (ae_cons (hd_of (tl_of (hc))) (ae_nil))⟩
  · cases hF

theorem wlessR1 (x y x' y' : Int) : (runF Try.prog S5 Zl 2000 146 [.v (.agg [.int .u64 x, .int .u64 y]), .v (.agg [.int .u64 x', .int .u64 y'])] [] 0 [some true, some true, some true, some true, some true, some true, none, none, none, none, none, some true, none, some true]).map (fun r => (r.1, r.2.2.2)) = some (LV.v (V1.one (At.bool true)), [(decide (x < x'), true), (decide (x < x'), true), (decide (x < x'), true), (decide (x < x'), true), (decide (x < x'), true), (decide (x < x'), true), (decide (x < x'), true), (decide (x < x'), true)]) := by kernel_rfl
theorem wlessR2 (x y x' y' : Int) : (runF Try.prog S5 Zl 2000 146 [.v (.agg [.int .u64 x, .int .u64 y]), .v (.agg [.int .u64 x', .int .u64 y'])] [] 0 [some false, some false, some false, some false, some false, some false, some true, some true, some true, some true, some true, some false, some true, some false]).map (fun r => (r.1, r.2.2.2)) = some (LV.v (V1.one (At.bool (decide (y < y')))), [(decide (x < x'), false), (decide (x < x'), false), (x == x', true), (x == x', true), (x == x', true), (x == x', true), (x == x', true), (x == x', true), (decide (x < x'), false), (decide (x < x'), false), (decide (x < x'), false), (decide (x < x'), false), (decide (x < x'), false), (decide (x < x'), false)]) := by kernel_rfl
theorem wlessR3 (x y x' y' : Int) : (runF Try.prog S5 Zl 2000 146 [.v (.agg [.int .u64 x, .int .u64 y]), .v (.agg [.int .u64 x', .int .u64 y'])] [] 0 [some false, some false, some false, some false, some false, some false, some false, some false, some false, some false, some false, some false, some false, some false]).map (fun r => (r.1, r.2.2.2)) = some (LV.v (V1.one (At.bool false)), [(decide (x < x'), false), (decide (x < x'), false), (x == x', false), (x == x', false), (x == x', false), (x == x', false), (x == x', false), (x == x', false), (decide (x < x'), false), (decide (x < x'), false), (decide (x < x'), false), (decide (x < x'), false), (decide (x < x'), false), (decide (x < x'), false)]) := by kernel_rfl
def wlessT (x y x' y' : Int) : Option (LV × List (Bool × Bool)) := 
  bif (decide (x < x')) then some (LV.v (V1.one (At.bool true)), [])
  else 
    bif (x == x') then some (LV.v (V1.one (At.bool (decide (y < y')))), [])
    else some (LV.v (V1.one (At.bool false)), [])
def wlessF : List LV → Option (LV × List (Bool × Bool))
  | [.v (.agg [.int .u64 x, .int .u64 y]), .v (.agg [.int .u64 x', .int .u64 y'])] => wlessT x y x' y'
  | _ => none
theorem sumwless : SumOK Try.prog 146 (pureSum wlessF) := by
  refine pureSum_run (z := Zl) sound5 (own_of sound5 Try.func146 (by kernel_rfl)) fun args v cs hF hc => ?_
  unfold wlessF at hF
  split at hF
  · rename_i x y x' y'
    unfold wlessT at hF
    rcases bool_cases (decide (x < x')) with h0 | h0
    · rw [cond_t h0] at hF
      cases hF
      exact ⟨2000, [some true, some true, some true, some true, some true, some true, none, none, none, none, none, some true, none, some true], _, wlessR1 x y x' y', ae_cons (h0) (ae_cons (h0) (ae_cons (h0) (ae_cons (h0) (ae_cons (h0) (ae_cons (h0) (ae_cons (h0) (ae_cons (h0) (ae_nil))))))))⟩
    · rw [cond_f h0] at hF
      rcases bool_cases (x == x') with h1 | h1
      · rw [cond_t h1] at hF
        cases hF
        exact ⟨2000, [some false, some false, some false, some false, some false, some false, some true, some true, some true, some true, some true, some false, some true, some false], _, wlessR2 x y x' y', ae_cons (h0) (ae_cons (h0) (ae_cons (h1) (ae_cons (h1) (ae_cons (h1) (ae_cons (h1) (ae_cons (h1) (ae_cons (h1) (ae_cons (h0) (ae_cons (h0) (ae_cons (h0) (ae_cons (h0) (ae_cons (h0) (ae_cons (h0) (ae_nil))))))))))))))⟩
      · rw [cond_f h1] at hF
        cases hF
        exact ⟨2000, [some false, some false, some false, some false, some false, some false, some false, some false, some false, some false, some false, some false, some false, some false], _, wlessR3 x y x' y', ae_cons (h0) (ae_cons (h0) (ae_cons (h1) (ae_cons (h1) (ae_cons (h1) (ae_cons (h1) (ae_cons (h1) (ae_cons (h1) (ae_cons (h0) (ae_cons (h0) (ae_cons (h0) (ae_cons (h0) (ae_cons (h0) (ae_cons (h0) (ae_nil))))))))))))))⟩
  · cases hF

theorem sg64R1 (x y : Int) (n : Bool) : (runF Try.prog S5 Zl 2000 115 [.v (.agg [.int .u64 x, .int .u64 y]), .v (.one (.bool n))] [] 0 [some true, some true]).map (fun r => (r.1, r.2.2.2)) = some (LV.tup [V1.one (At.int IntKind.i64 0), V1.one (At.bool false)], [(x != 0, true), (x != 0, true)]) := by kernel_rfl
theorem sg64R2 (x y : Int) (n : Bool) : (runF Try.prog S5 Zl 2000 115 [.v (.agg [.int .u64 x, .int .u64 y]), .v (.one (.bool n))] [] 0 [some false, some true, some true, some true, some true, some true, some true]).map (fun r => (r.1, r.2.2.2)) = some (LV.tup [V1.one (At.int IntKind.i64 0), V1.one (At.bool false)], [(decide (y > 9223372036854775807), true), (decide (y > 9223372036854775807), true), (!n, true), (!n, true), (!n, true), (!n, true), (x != 0, false)]) := by kernel_rfl
theorem sg64R3 (x y : Int) (n : Bool) : (runF Try.prog S5 Zl 2000 115 [.v (.agg [.int .u64 x, .int .u64 y]), .v (.one (.bool n))] [] 0 [some false, some true, some true, some true, some true, some false, some true, some true, some true, some true, some true]).map (fun r => (r.1, r.2.2.2)) = some (LV.tup [V1.one (At.int IntKind.i64 0), V1.one (At.bool false)], [(decide (y > 9223372036854775808), true), (n, true), (n, true), (n, true), (n, true), (decide (y > 9223372036854775807), false), (!n, true), (!n, true), (!n, true), (!n, true), (x != 0, false)]) := by kernel_rfl
theorem sg64R4 (x y : Int) (n : Bool) : (runF Try.prog S5 Zl 2000 115 [.v (.agg [.int .u64 x, .int .u64 y]), .v (.one (.bool n))] [] 0 [some false, some true, some true, some true, some true, some false, some true, some true, some true, some true, some false, some true]).map (fun r => (r.1, r.2.2.2)) = some (LV.tup [V1.one (At.int IntKind.i64 (wr IntKind.i64 (wr IntKind.u64 (0 - y)))), V1.one (At.bool true)], [(n, true), (decide (y > 9223372036854775808), false), (n, true), (n, true), (n, true), (n, true), (decide (y > 9223372036854775807), false), (!n, true), (!n, true), (!n, true), (!n, true), (x != 0, false)]) := by kernel_rfl
theorem sg64R5 (x y : Int) (n : Bool) : (runF Try.prog S5 Zl 2000 115 [.v (.agg [.int .u64 x, .int .u64 y]), .v (.one (.bool n))] [] 0 [some false, some true, some true, some true, some true, some false, some false, some false, some false, some false, none, some false]).map (fun r => (r.1, r.2.2.2)) = some (LV.tup [V1.one (At.int IntKind.i64 (wr IntKind.i64 y)), V1.one (At.bool true)], [(n, false), (n, false), (n, false), (n, false), (n, false), (decide (y > 9223372036854775807), false), (!n, true), (!n, true), (!n, true), (!n, true), (x != 0, false)]) := by kernel_rfl
theorem sg64R6 (x y : Int) (n : Bool) : (runF Try.prog S5 Zl 2000 115 [.v (.agg [.int .u64 x, .int .u64 y]), .v (.one (.bool n))] [] 0 [some false, some false, some false, some false, some false, none, some true, some true, some true, some true, some true]).map (fun r => (r.1, r.2.2.2)) = some (LV.tup [V1.one (At.int IntKind.i64 0), V1.one (At.bool false)], [(decide (y > 9223372036854775808), true), (n, true), (n, true), (n, true), (n, true), (!n, false), (!n, false), (!n, false), (!n, false), (x != 0, false)]) := by kernel_rfl
theorem sg64R7 (x y : Int) (n : Bool) : (runF Try.prog S5 Zl 2000 115 [.v (.agg [.int .u64 x, .int .u64 y]), .v (.one (.bool n))] [] 0 [some false, some false, some false, some false, some false, none, some true, some true, some true, some true, some false, some true]).map (fun r => (r.1, r.2.2.2)) = some (LV.tup [V1.one (At.int IntKind.i64 (wr IntKind.i64 (wr IntKind.u64 (0 - y)))), V1.one (At.bool true)], [(n, true), (decide (y > 9223372036854775808), false), (n, true), (n, true), (n, true), (n, true), (!n, false), (!n, false), (!n, false), (!n, false), (x != 0, false)]) := by kernel_rfl
theorem sg64R8 (x y : Int) (n : Bool) : (runF Try.prog S5 Zl 2000 115 [.v (.agg [.int .u64 x, .int .u64 y]), .v (.one (.bool n))] [] 0 [some false, some false, some false, some false, some false, none, some false, some false, some false, some false, none, some false]).map (fun r => (r.1, r.2.2.2)) = some (LV.tup [V1.one (At.int IntKind.i64 (wr IntKind.i64 y)), V1.one (At.bool true)], [(n, false), (n, false), (n, false), (n, false), (n, false), (!n, false), (!n, false), (!n, false), (!n, false), (x != 0, false)]) := by kernel_rfl
def sg64T (x y : Int) (n : Bool) : Option (LV × List (Bool × Bool)) := 
  bif (x != 0) then some (LV.tup [V1.one (At.int IntKind.i64 0), V1.one (At.bool false)], [])
  else 
    bif (!n) then 
      bif (decide (y > 9223372036854775807)) then some (LV.tup [V1.one (At.int IntKind.i64 0), V1.one (At.bool false)], [])
      else 
        bif (n) then 
          bif (decide (y > 9223372036854775808)) then some (LV.tup [V1.one (At.int IntKind.i64 0), V1.one (At.bool false)], [])
          else some (LV.tup [V1.one (At.int IntKind.i64 (wr IntKind.i64 (wr IntKind.u64 (0 - y)))), V1.one (At.bool true)], [])
        else some (LV.tup [V1.one (At.int IntKind.i64 (wr IntKind.i64 y)), V1.one (At.bool true)], [])
    else 
      bif (n) then 
        bif (decide (y > 9223372036854775808)) then some (LV.tup [V1.one (At.int IntKind.i64 0), V1.one (At.bool false)], [])
        else some (LV.tup [V1.one (At.int IntKind.i64 (wr IntKind.i64 (wr IntKind.u64 (0 - y)))), V1.one (At.bool true)], [])
      else some (LV.tup [V1.one (At.int IntKind.i64 (wr IntKind.i64 y)), V1.one (At.bool true)], [])
def sg64F : List LV → Option (LV × List (Bool × Bool))
  | [.v (.agg [.int .u64 x, .int .u64 y]), .v (.one (.bool n))] => sg64T x y n
  | _ => none
theorem sumsg64 : SumOK Try.prog 115 (pureSum sg64F) := by
  refine pureSum_run (z := Zl) sound5 (own_of sound5 Try.func115 (by kernel_rfl)) fun args v cs hF hc => ?_
  unfold sg64F at hF
  split at hF
  · rename_i x y n
    unfold sg64T at hF
    rcases bool_cases (x != 0) with h0 | h0
    · rw [cond_t h0] at hF
      cases hF
      exact ⟨2000, [some true, some true], _, sg64R1 x y n, ae_cons (h0) (ae_cons (h0) (ae_nil))⟩
    · rw [cond_f h0] at hF
      rcases bool_cases (!n) with h1 | h1
      · rw [cond_t h1] at hF
        rcases bool_cases (decide (y > 9223372036854775807)) with h2 | h2
        · rw [cond_t h2] at hF
          cases hF
          exact ⟨2000, [some false, some true, some true, some true, some true, some true, some true], _, sg64R2 x y n, ae_cons (h2) (ae_cons (h2) (ae_cons (h1) (ae_cons (h1) (ae_cons (h1) (ae_cons (h1) (ae_cons (h0) (ae_nil)))))))⟩
        · rw [cond_f h2] at hF
          rcases bool_cases (n) with h3 | h3
          · rw [cond_t h3] at hF
            rcases bool_cases (decide (y > 9223372036854775808)) with h4 | h4
            · rw [cond_t h4] at hF
              cases hF
              exact ⟨2000, [some false, some true, some true, some true, some true, some false, some true, some true, some true, some true, some true], _, sg64R3 x y n, ae_cons (h4) (ae_cons (h3) (ae_cons (h3) (ae_cons (h3) (ae_cons (h3) (ae_cons (h2) (ae_cons (h1) (ae_cons (h1) (ae_cons (h1) (ae_cons (h1) (ae_cons (h0) (ae_nil)))))))))))⟩
            · rw [cond_f h4] at hF
              cases hF
              exact ⟨2000, [some false, some true, some true, some true, some true, some false, some true, some true, some true, some true, some false, some true], _, sg64R4 x y n, ae_cons (h3) (ae_cons (h4) (ae_cons (h3) (ae_cons (h3) (ae_cons (h3) (ae_cons (h3) (ae_cons (h2) (ae_cons (h1) (ae_cons (h1) (ae_cons (h1) (ae_cons (h1) (ae_cons (h0) (ae_nil))))))))))))⟩
          · rw [cond_f h3] at hF
            cases hF
            exact ⟨2000, [some false, some true, some true, some true, some true, some false, some false, some false, some false, some false, none, some false], _, sg64R5 x y n, ae_cons (h3) (ae_cons (h3) (ae_cons (h3) (ae_cons (h3) (ae_cons (h3) (ae_cons (h2) (ae_cons (h1) (ae_cons (h1) (ae_cons (h1) (ae_cons (h1) (ae_cons (h0) (ae_nil)))))))))))⟩
      · rw [cond_f h1] at hF
        rcases bool_cases (n) with h2 | h2
        · rw [cond_t h2] at hF
          rcases bool_cases (decide (y > 9223372036854775808)) with h3 | h3
          · rw [cond_t h3] at hF
            cases hF
            exact ⟨2000, [some false, some false, some false, some false, some false, none, some true, some true, some true, some true, some true], _, sg64R6 x y n, ae_cons (h3) (ae_cons (h2) (ae_cons (h2) (ae_cons (h2) (ae_cons (h2) (ae_cons (h1) (ae_cons (h1) (ae_cons (h1) (ae_cons (h1) (ae_cons (h0) (ae_nil))))))))))⟩
          · rw [cond_f h3] at hF
            cases hF
            exact ⟨2000, [some false, some false, some false, some false, some false, none, some true, some true, some true, some true, some false, some true], _, sg64R7 x y n, ae_cons (h2) (ae_cons (h3) (ae_cons (h2) (ae_cons (h2) (ae_cons (h2) (ae_cons (h2) (ae_cons (h1) (ae_cons (h1) (ae_cons (h1) (ae_cons (h1) (ae_cons (h0) (ae_nil)))))))))))⟩
        · rw [cond_f h2] at hF
          cases hF
          exact ⟨2000, [some false, some false, some false, some false, some false, none, some false, some false, some false, some false, none, some false], _, sg64R8 x y n, ae_cons (h2) (ae_cons (h2) (ae_cons (h2) (ae_cons (h2) (ae_cons (h2) (ae_cons (h1) (ae_cons (h1) (ae_cons (h1) (ae_cons (h1) (ae_cons (h0) (ae_nil))))))))))⟩
  · cases hF

end Go.Proofs.Ytnabopepomjncaa

/- wide: shl, shr, minus, Of, add, by every path of their runs (printed by contract.py). -/
namespace Go.Proofs.Ytnabopepomjncaa
open Go.Lr

theorem wshlR1 (x y s : Int) : (runF Try.prog S5 Zl 2000 114 [.v (.agg [.int .u64 x, .int .u64 y]), .v (.one (.int .i64 s))] [] 0 [some true]).map (fun r => (r.1, r.2.2.2)) = some (LV.v (V1.agg [At.int IntKind.u64 (wr IntKind.u64 (y * pow2 (min (wr IntKind.i64 (s - 64)).toNat IntKind.u64.bits))), At.int IntKind.u64 0]), [(decide (wr IntKind.i64 (s - 64) < 0), false), (decide (s ≥ 64), true)]) := by kernel_rfl
theorem wshlR2 (x y s : Int) : (runF Try.prog S5 Zl 2000 114 [.v (.agg [.int .u64 x, .int .u64 y]), .v (.one (.int .i64 s))] [] 0 [some false]).map (fun r => (r.1, r.2.2.2)) = some (LV.v (V1.agg [At.int IntKind.u64 (Int.ofNat ((u64 (wr IntKind.u64 (x * pow2 (min s.toNat IntKind.u64.bits)))).toNat.lor (u64 (y / pow2 (min (wr IntKind.i64 (64 - s)).toNat IntKind.u64.bits))).toNat)), At.int IntKind.u64 (wr IntKind.u64 (y * pow2 (min s.toNat IntKind.u64.bits)))]), [(decide (s < 0), false), (decide (wr IntKind.i64 (64 - s) < 0), false), (decide (s < 0), false), (decide (s ≥ 64), false)]) := by kernel_rfl
def wshlT (x y s : Int) : Option (LV × List (Bool × Bool)) := 
  bif (decide (s ≥ 64)) then some (LV.v (V1.agg [At.int IntKind.u64 (wr IntKind.u64 (y * pow2 (min (wr IntKind.i64 (s - 64)).toNat IntKind.u64.bits))), At.int IntKind.u64 0]), [(decide (wr IntKind.i64 (s - 64) < 0), false)])
  else some (LV.v (V1.agg [At.int IntKind.u64 (Int.ofNat ((u64 (wr IntKind.u64 (x * pow2 (min s.toNat IntKind.u64.bits)))).toNat.lor (u64 (y / pow2 (min (wr IntKind.i64 (64 - s)).toNat IntKind.u64.bits))).toNat)), At.int IntKind.u64 (wr IntKind.u64 (y * pow2 (min s.toNat IntKind.u64.bits)))]), [(decide (s < 0), false), (decide (wr IntKind.i64 (64 - s) < 0), false)])
def wshlF : List LV → Option (LV × List (Bool × Bool))
  | [.v (.agg [.int .u64 x, .int .u64 y]), .v (.one (.int .i64 s))] => wshlT x y s
  | _ => none
theorem sumwshl : SumOK Try.prog 114 (pureSum wshlF) := by
  refine pureSum_run (z := Zl) sound5 (own_of sound5 Try.func114 (by kernel_rfl)) fun args v cs hF hc => ?_
  unfold wshlF at hF
  split at hF
  · rename_i x y s
    unfold wshlT at hF
    rcases bool_cases (decide (s ≥ 64)) with h0 | h0
    · rw [cond_t h0] at hF
      cases hF
      exact ⟨2000, [some true], _, wshlR1 x y s, ae_cons (hd_of (hc)) (ae_cons (h0) (ae_nil))⟩
    · rw [cond_f h0] at hF
      cases hF
      exact ⟨2000, [some false], _, wshlR2 x y s, ae_cons (hd_of (hc)) (ae_cons (hd_of (tl_of (hc))) (ae_cons (hd_of (hc)) (ae_cons (h0) (ae_nil))))⟩
  · cases hF

theorem wshrR1 (x y s : Int) : (runF Try.prog S5 Zl 2000 116 [.v (.agg [.int .u64 x, .int .u64 y]), .v (.one (.int .i64 s))] [] 0 [some true]).map (fun r => (r.1, r.2.2.2)) = some (LV.v (V1.agg [At.int IntKind.u64 0, At.int IntKind.u64 (x / pow2 (min (wr IntKind.i64 (s - 64)).toNat IntKind.u64.bits))]), [(decide (wr IntKind.i64 (s - 64) < 0), false), (decide (s ≥ 64), true)]) := by kernel_rfl
theorem wshrR2 (x y s : Int) : (runF Try.prog S5 Zl 2000 116 [.v (.agg [.int .u64 x, .int .u64 y]), .v (.one (.int .i64 s))] [] 0 [some false]).map (fun r => (r.1, r.2.2.2)) = some (LV.v (V1.agg [At.int IntKind.u64 (x / pow2 (min s.toNat IntKind.u64.bits)), At.int IntKind.u64 (Int.ofNat ((u64 (y / pow2 (min s.toNat IntKind.u64.bits))).toNat.lor (u64 (wr IntKind.u64 (x * pow2 (min (wr IntKind.i64 (64 - s)).toNat IntKind.u64.bits)))).toNat))]), [(decide (wr IntKind.i64 (64 - s) < 0), false), (decide (s < 0), false), (decide (s < 0), false), (decide (s ≥ 64), false)]) := by kernel_rfl
def wshrT (x y s : Int) : Option (LV × List (Bool × Bool)) := 
  bif (decide (s ≥ 64)) then some (LV.v (V1.agg [At.int IntKind.u64 0, At.int IntKind.u64 (x / pow2 (min (wr IntKind.i64 (s - 64)).toNat IntKind.u64.bits))]), [(decide (wr IntKind.i64 (s - 64) < 0), false)])
  else some (LV.v (V1.agg [At.int IntKind.u64 (x / pow2 (min s.toNat IntKind.u64.bits)), At.int IntKind.u64 (Int.ofNat ((u64 (y / pow2 (min s.toNat IntKind.u64.bits))).toNat.lor (u64 (wr IntKind.u64 (x * pow2 (min (wr IntKind.i64 (64 - s)).toNat IntKind.u64.bits)))).toNat))]), [(decide (wr IntKind.i64 (64 - s) < 0), false), (decide (s < 0), false)])
def wshrF : List LV → Option (LV × List (Bool × Bool))
  | [.v (.agg [.int .u64 x, .int .u64 y]), .v (.one (.int .i64 s))] => wshrT x y s
  | _ => none
theorem sumwshr : SumOK Try.prog 116 (pureSum wshrF) := by
  refine pureSum_run (z := Zl) sound5 (own_of sound5 Try.func116 (by kernel_rfl)) fun args v cs hF hc => ?_
  unfold wshrF at hF
  split at hF
  · rename_i x y s
    unfold wshrT at hF
    rcases bool_cases (decide (s ≥ 64)) with h0 | h0
    · rw [cond_t h0] at hF
      cases hF
      exact ⟨2000, [some true], _, wshrR1 x y s, ae_cons (hd_of (hc)) (ae_cons (h0) (ae_nil))⟩
    · rw [cond_f h0] at hF
      cases hF
      exact ⟨2000, [some false], _, wshrR2 x y s, ae_cons (hd_of (hc)) (ae_cons (hd_of (tl_of (hc))) (ae_cons (hd_of (tl_of (hc))) (ae_cons (h0) (ae_nil))))⟩
  · cases hF

theorem wminusR1 (x y x' y' : Int) : (runF Try.prog S5 Zl 2000 147 [.v (.agg [.int .u64 x, .int .u64 y]), .v (.agg [.int .u64 x', .int .u64 y'])] [] 0 []).map (fun r => (r.1, r.2.2.2)) = some (LV.v (V1.agg [At.int IntKind.u64 (u64 (x - x' - borrow y y' 0)), At.int IntKind.u64 (u64 (y - y' - 0))]), [(decide (0 ≤ x) && (decide (0 ≤ x') && (decide (x' < 18446744073709551616) && (decide (0 ≤ borrow y y' 0) && decide (borrow y y' 0 ≤ 1)))), true), (decide (0 ≤ y) && (decide (0 ≤ y') && (decide (y' < 18446744073709551616) && (decide (0 ≤ 0) && decide (0 ≤ 1)))), true)]) := by kernel_rfl
def wminusT (x y x' y' : Int) : Option (LV × List (Bool × Bool)) := some (LV.v (V1.agg [At.int IntKind.u64 (u64 (x - x' - borrow y y' 0)), At.int IntKind.u64 (u64 (y - y' - 0))]), [(decide (0 ≤ x) && (decide (0 ≤ x') && (decide (x' < 18446744073709551616) && (decide (0 ≤ borrow y y' 0) && decide (borrow y y' 0 ≤ 1)))), true), (decide (0 ≤ y) && (decide (0 ≤ y') && (decide (y' < 18446744073709551616) && (decide (0 ≤ 0) && decide (0 ≤ 1)))), true)])
def wminusF : List LV → Option (LV × List (Bool × Bool))
  | [.v (.agg [.int .u64 x, .int .u64 y]), .v (.agg [.int .u64 x', .int .u64 y'])] => wminusT x y x' y'
  | _ => none
theorem sumwminus : SumOK Try.prog 147 (pureSum wminusF) := by
  refine pureSum_run (z := Zl) sound5 (own_of sound5 Try.func147 (by kernel_rfl)) fun args v cs hF hc => ?_
  unfold wminusF at hF
  split at hF
  · rename_i x y x' y'
    unfold wminusT at hF
    cases hF
    exact ⟨2000, [], _, wminusR1 x y x' y', ae_cons (hd_of (hc)) (ae_cons (hd_of (tl_of (hc))) (ae_nil))⟩
  · cases hF

theorem wofR1 (a : Int) : (runF Try.prog S5 Zl 2000 54 [.v (.one (.int .i64 a))] [] 0 []).map (fun r => (r.1, r.2.2.2)) = some (LV.v (V1.agg [At.int IntKind.i64 (a / pow2 (min (Int.toNat 63) IntKind.i64.bits)), At.int IntKind.u64 (wr IntKind.u64 a)]), []) := by kernel_rfl
def wofT (a : Int) : Option (LV × List (Bool × Bool)) := some (LV.v (V1.agg [At.int IntKind.i64 (a / pow2 (min (Int.toNat 63) IntKind.i64.bits)), At.int IntKind.u64 (wr IntKind.u64 a)]), [])
def wofF : List LV → Option (LV × List (Bool × Bool))
  | [.v (.one (.int .i64 a))] => wofT a
  | _ => none
theorem sumwof : SumOK Try.prog 54 (pureSum wofF) := by
  refine pureSum_run (z := Zl) sound5 (own_of sound5 Try.func54 (by kernel_rfl)) fun args v cs hF hc => ?_
  unfold wofF at hF
  split at hF
  · rename_i a
    unfold wofT at hF
    cases hF
    exact ⟨2000, [], _, wofR1 a, ae_nil⟩
  · cases hF

theorem waddR1 (x y x' y' : Int) : (runF Try.prog S5 Zl 2000 108 [.v (.agg [.int .i64 x, .int .u64 y]), .v (.agg [.int .i64 x', .int .u64 y'])] [] 0 [some true, some true, some true, some true, some true, some true, some true, some true]).map (fun r => (r.1, r.2.2.2)) = some (LV.tup [V1.agg [At.int IntKind.i64 (wr IntKind.i64 (u64 (wr IntKind.u64 x + wr IntKind.u64 x' + (y + y' + 0) / 18446744073709551616))), At.int IntKind.u64 (u64 (y + y' + 0))], V1.one (At.bool true)], [(!decide (x < 0) == decide (x' < 0), true), (!decide (x < 0) == decide (x' < 0), true), (!decide (x < 0) == decide (x' < 0), true), (!decide (x < 0) == decide (x' < 0), true), (!decide (x < 0) == decide (x' < 0), true), (!decide (x < 0) == decide (x' < 0), true), (!decide (x < 0) == decide (x' < 0), true), (!decide (x < 0) == decide (x' < 0), true), (decide (0 ≤ wr IntKind.u64 x) && (decide (0 ≤ wr IntKind.u64 x') && (decide (0 ≤ (y + y' + 0) / 18446744073709551616) && decide ((y + y' + 0) / 18446744073709551616 ≤ 1))), true), (decide (0 ≤ y) && (decide (0 ≤ y') && (decide (0 ≤ 0) && decide (0 ≤ 1))), true)]) := by kernel_rfl
theorem waddR2 (x y x' y' : Int) : (runF Try.prog S5 Zl 2000 108 [.v (.agg [.int .i64 x, .int .u64 y]), .v (.agg [.int .i64 x', .int .u64 y'])] [] 0 [some false, some false, some false, some false, some false, some false, some false, some false]).map (fun r => (r.1, r.2.2.2)) = some (LV.tup [V1.agg [At.int IntKind.i64 (wr IntKind.i64 (u64 (wr IntKind.u64 x + wr IntKind.u64 x' + (y + y' + 0) / 18446744073709551616))), At.int IntKind.u64 (u64 (y + y' + 0))], V1.one (At.bool (decide (wr IntKind.i64 (u64 (wr IntKind.u64 x + wr IntKind.u64 x' + (y + y' + 0) / 18446744073709551616)) < 0) == decide (x < 0)))], [(!decide (x < 0) == decide (x' < 0), false), (!decide (x < 0) == decide (x' < 0), false), (!decide (x < 0) == decide (x' < 0), false), (!decide (x < 0) == decide (x' < 0), false), (!decide (x < 0) == decide (x' < 0), false), (!decide (x < 0) == decide (x' < 0), false), (!decide (x < 0) == decide (x' < 0), false), (!decide (x < 0) == decide (x' < 0), false), (decide (0 ≤ wr IntKind.u64 x) && (decide (0 ≤ wr IntKind.u64 x') && (decide (0 ≤ (y + y' + 0) / 18446744073709551616) && decide ((y + y' + 0) / 18446744073709551616 ≤ 1))), true), (decide (0 ≤ y) && (decide (0 ≤ y') && (decide (0 ≤ 0) && decide (0 ≤ 1))), true)]) := by kernel_rfl
def waddT (x y x' y' : Int) : Option (LV × List (Bool × Bool)) := 
  bif (!decide (x < 0) == decide (x' < 0)) then some (LV.tup [V1.agg [At.int IntKind.i64 (wr IntKind.i64 (u64 (wr IntKind.u64 x + wr IntKind.u64 x' + (y + y' + 0) / 18446744073709551616))), At.int IntKind.u64 (u64 (y + y' + 0))], V1.one (At.bool true)], [(decide (0 ≤ wr IntKind.u64 x) && (decide (0 ≤ wr IntKind.u64 x') && (decide (0 ≤ (y + y' + 0) / 18446744073709551616) && decide ((y + y' + 0) / 18446744073709551616 ≤ 1))), true), (decide (0 ≤ y) && (decide (0 ≤ y') && (decide (0 ≤ 0) && decide (0 ≤ 1))), true)])
  else some (LV.tup [V1.agg [At.int IntKind.i64 (wr IntKind.i64 (u64 (wr IntKind.u64 x + wr IntKind.u64 x' + (y + y' + 0) / 18446744073709551616))), At.int IntKind.u64 (u64 (y + y' + 0))], V1.one (At.bool (decide (wr IntKind.i64 (u64 (wr IntKind.u64 x + wr IntKind.u64 x' + (y + y' + 0) / 18446744073709551616)) < 0) == decide (x < 0)))], [(decide (0 ≤ wr IntKind.u64 x) && (decide (0 ≤ wr IntKind.u64 x') && (decide (0 ≤ (y + y' + 0) / 18446744073709551616) && decide ((y + y' + 0) / 18446744073709551616 ≤ 1))), true), (decide (0 ≤ y) && (decide (0 ≤ y') && (decide (0 ≤ 0) && decide (0 ≤ 1))), true)])
def waddF : List LV → Option (LV × List (Bool × Bool))
  | [.v (.agg [.int .i64 x, .int .u64 y]), .v (.agg [.int .i64 x', .int .u64 y'])] => waddT x y x' y'
  | _ => none
theorem sumwadd : SumOK Try.prog 108 (pureSum waddF) := by
  refine pureSum_run (z := Zl) sound5 (own_of sound5 Try.func108 (by kernel_rfl)) fun args v cs hF hc => ?_
  unfold waddF at hF
  split at hF
  · rename_i x y x' y'
    unfold waddT at hF
    rcases bool_cases (!decide (x < 0) == decide (x' < 0)) with h0 | h0
    · rw [cond_t h0] at hF
      cases hF
      exact ⟨2000, [some true, some true, some true, some true, some true, some true, some true, some true], _, waddR1 x y x' y', ae_cons (h0) (ae_cons (h0) (ae_cons (h0) (ae_cons (h0) (ae_cons (h0) (ae_cons (h0) (ae_cons (h0) (ae_cons (h0) (ae_cons (hd_of (hc)) (ae_cons (hd_of (tl_of (hc))) (ae_nil))))))))))⟩
    · rw [cond_f h0] at hF
      cases hF
      exact ⟨2000, [some false, some false, some false, some false, some false, some false, some false, some false], _, waddR2 x y x' y', ae_cons (h0) (ae_cons (h0) (ae_cons (h0) (ae_cons (h0) (ae_cons (h0) (ae_cons (h0) (ae_cons (h0) (ae_cons (h0) (ae_cons (hd_of (hc)) (ae_cons (hd_of (tl_of (hc))) (ae_nil))))))))))⟩
  · cases hF

end Go.Proofs.Ytnabopepomjncaa

/- The local evaluator: a summary told in other words. -/
namespace Go.Lr
open Go.RowKit

def accT (ty : TypeId) (F : List LV → Bool → Option (LV × Bool × List (Bool × Bool))) (c : Nat) (rest : List LV) : Tch := ⟨[], [c], fun _ wB _ => match wB with
  | [⟨t, (0, 0), 0, [.bool h]⟩] => match Nat.beq t ty with
    | true => match F rest h with
      | some (v, h', cs) => match v.ok noP with
        | true => some ⟨v, [flag ty h'], [], cs⟩
        | false => none
      | none => none
    | false => none
  | _ => none⟩

section
variable {P : Program} {S : FuncId → Option SumK}

theorem SumOK.pure_re {f : FuncId} {F F' : List LV → Option (LV × List (Bool × Bool))} (h : SumOK P f (pureSum F))
    (hi : ∀ args v cs, F' args = some (v, cs) → (∀ c ∈ cs, c.1 = c.2) → ∃ cs', F args = some (v, cs') ∧ ∀ c ∈ cs', c.1 = c.2) : SumOK P f (pureSum F') := by
  intro args t g nb p rdB wrB ans ws E w hs hr hw hnd hgo hz hc hrel hg hargs hn
  unfold pureSum at hs
  split at hs
  · rename_i hp
    split at hs
    · rename_i v cs hF
      split at hs
      · rename_i hv
        cases hs
        simp only [Option.some.injEq] at hgo
        subst hgo
        obtain ⟨cs', h1, h2⟩ := hi args v cs hF hc
        refine h args ⟨[], [], fun _ _ _ => some ⟨v, [], [], cs'⟩⟩ g nb p rdB wrB ⟨v, [], [], cs'⟩ ws E w ?_ hr hw hnd rfl hz h2 hrel hg hargs hn
        unfold pureSum
        rw [hp, h1]
        simp only [hv]
      · cases hs
    · cases hs
  · cases hs

theorem SumOK.acc_re {f : FuncId} {ty : TypeId} {F F' : List LV → Bool → Option (LV × Bool × List (Bool × Bool))} (h : SumOK P f (accSum ty F))
    (hi : ∀ args hb v h' cs, F' args hb = some (v, h', cs) → (∀ c ∈ cs, c.1 = c.2) → ∃ cs', F args hb = some (v, h', cs') ∧ ∀ c ∈ cs', c.1 = c.2) : SumOK P f (accSum ty F') := by
  intro args t g nb p rdB wrB ans ws E w hs hr hw hnd hgo hz hc hrel hg hargs hn
  unfold accSum at hs
  split at hs
  · rename_i c rest
    split at hs
    · rename_i hp
      cases hs
      simp only at hgo hw hr hz
      split at hgo
      · rename_i t' hb
        split at hgo
        · rename_i hty
          split at hgo
          · rename_i v h' cs hF
            split at hgo
            · rename_i hv
              cases hgo
              obtain ⟨cs', h1, h2⟩ := hi rest hb v h' cs hF hc
              refine h (.v (.one (.ptr c 0)) :: rest) (accT ty F c rest) g nb p rdB _ ⟨v, [flag ty h'], [], cs'⟩ ws E w (by unfold accSum; simp only [hp]; rfl) hr hw hnd ?_ hz h2 hrel hg hargs hn
              simp only [accT, hty, h1, hv]
            · cases hgo
          · cases hgo
        · cases hgo
      · cases hgo
    · cases hs
  · cases hs

end
/-- All asks hold. -/
def AllEq (l : List (Bool × Bool)) : Prop := ∀ c ∈ l, c.1 = c.2
theorem all_tt {b : Bool} {l : List (Bool × Bool)} : (∀ c ∈ (b, true) :: l, c.1 = c.2) ↔ b = true ∧ ∀ c ∈ l, c.1 = c.2 := by simp
theorem all_ff {b : Bool} {l : List (Bool × Bool)} : (∀ c ∈ (b, false) :: l, c.1 = c.2) ↔ b = false ∧ ∀ c ∈ l, c.1 = c.2 := by simp
end Go.Lr

/- wide: what the small functions come to, in numbers. -/
namespace Go.Proofs.Ytnabopepomjncaa
open Go.Lr
set_option linter.unusedVariables false
set_option linter.unusedSimpArgs false

def B1 (v : Int) : V1 := .agg [.int .u64 (wHi v), .int .u64 (wLo v)]

theorem agg2 {k k' : IntKind} {a a' b b' : Int} (cs : List (Bool × Bool)) (h1 : a = a') (h2 : b = b') :
    some (LV.v (V1.agg [At.int k a, At.int k' b]), cs) = some (LV.v (V1.agg [At.int k a', At.int k' b']), cs) := by subst h1; subst h2; rfl
theorem tup21 {k k' : IntKind} {a a' b b' : Int} {c c' : Bool} (cs : List (Bool × Bool)) (h1 : a = a') (h2 : b = b') (h3 : c = c') :
    some (LV.tup [V1.agg [At.int k a, At.int k' b], V1.one (At.bool c)], cs) = some (LV.tup [V1.agg [At.int k a', At.int k' b'], V1.one (At.bool c')], cs) := by subst h1; subst h2; subst h3; rfl
theorem tup11 {k : IntKind} {a a' : Int} {c c' : Bool} (cs : List (Bool × Bool)) (h1 : a = a') (h3 : c = c') :
    some (LV.tup [V1.one (At.int k a), V1.one (At.bool c)], cs) = some (LV.tup [V1.one (At.int k a'), V1.one (At.bool c')], cs) := by subst h1; subst h3; rfl
theorem oneB {c c' : Bool} (cs : List (Bool × Bool)) (h3 : c = c') :
    some (LV.v (V1.one (At.bool c)), cs) = some (LV.v (V1.one (At.bool c')), cs) := by subst h3; rfl
theorem oneI {k : IntKind} {c c' : Int} (cs : List (Bool × Bool)) (h3 : c = c') :
    some (LV.v (V1.one (At.int k c)), cs) = some (LV.v (V1.one (At.int k c')), cs) := by subst h3; rfl

theorem min64 {s : Int} (h0 : 0 ≤ s) (h1 : s ≤ 64) : min s.toNat IntKind.u64.bits = s.toNat := by
  have : IntKind.u64.bits = 64 := rfl
  omega
theorem w64s {s : Int} (h0 : -1000 ≤ s) (h1 : s ≤ 1000) : wr .i64 s = s := w64_in (by omega) (by omega)

def shlS : List LV → Option (LV × List (Bool × Bool))
  | [.v (.agg [.int .u64 x, .int .u64 y]), .v (.one (.int .i64 s))] => some (.v (B1 (wVal x y * pow2 s.toNat % 340282366920938463463374607431768211456)), [(isU x, true), (isU y, true), (decide (0 ≤ s) && decide (s < 128), true)])
  | _ => none
theorem sumShl : SumOK Try.prog 114 (pureSum shlS) := by
  refine sumwshl.pure_re fun args v cs hF hc => ?_
  unfold shlS at hF
  split at hF
  · rename_i x y s
    cases hF
    simp only [all_tt, isU_iff, Bool.and_eq_true, decide_eq_true_eq] at hc
    obtain ⟨⟨hx0, hx1⟩, ⟨hy0, hy1⟩, ⟨hs0, hs1⟩, -⟩ := hc
    by_cases h : s ≥ 64
    · refine ⟨_, (cond_t (decide_eq_true h)).trans (agg2 _ ?_ ?_), ?_⟩
      · rw [w64s (by omega) (by omega), min64 (by omega) (by omega), wr_u]
        have hs : s.toNat = (s - 64).toNat + 64 := by omega
        rw [hs, pow2_add, pow2_64]
        generalize pow2 (s - 64).toNat = p
        unfold wHi wVal u64
        have e : (x * 18446744073709551616 + y) * (p * 18446744073709551616) = x * p * 340282366920938463463374607431768211456 + (y * p) * 18446744073709551616 := by grind
        rw [e]; generalize x * p = a; generalize y * p = b; omega
      · have hs : s.toNat = (s - 64).toNat + 64 := by omega
        rw [hs, pow2_add, pow2_64]
        generalize pow2 (s - 64).toNat = p
        unfold wLo wVal
        have e : (x * 18446744073709551616 + y) * (p * 18446744073709551616) = x * p * 340282366920938463463374607431768211456 + (y * p) * 18446744073709551616 := by grind
        rw [e]; generalize x * p = a; generalize y * p = b; omega
      · rw [w64s (by omega) (by omega)]; simp; omega
    · have hpq : pow2 s.toNat * pow2 (64 - s).toNat = 18446744073709551616 := by rw [← pow2_add, ← pow2_64]; congr 1; omega
      obtain ⟨g1, g2, g3, g4, g5, g6, g7, g8⟩ := shl_lt x y (pow2 s.toNat) (pow2 (64 - s).toNat) (pow2_pos _) (pow2_pos _) hpq hy0 hy1
      refine ⟨_, (cond_f (decide_eq_false h)).trans (agg2 _ ?_ ?_), ?_⟩
      · rw [w64s (by omega) (by omega), min64 (s := s) (by omega) (by omega), min64 (s := 64 - s) (by omega) (by omega), wr_u, g1, g3]
        exact (ior_add _ _ _ g8 g5 g6 g7).1
      · rw [min64 (s := s) (by omega) (by omega), wr_u, g2, g4]
      · rw [w64s (by omega) (by omega)]; simp; omega
  · cases hF

def shrS : List LV → Option (LV × List (Bool × Bool))
  | [.v (.agg [.int .u64 x, .int .u64 y]), .v (.one (.int .i64 s))] => some (.v (B1 (wVal x y / pow2 s.toNat)), [(isU x, true), (isU y, true), (decide (0 ≤ s) && decide (s < 128), true)])
  | _ => none
theorem sumShr : SumOK Try.prog 116 (pureSum shrS) := by
  refine sumwshr.pure_re fun args v cs hF hc => ?_
  unfold shrS at hF
  split at hF
  · rename_i x y s
    cases hF
    simp only [all_tt, isU_iff, Bool.and_eq_true, decide_eq_true_eq] at hc
    obtain ⟨⟨hx0, hx1⟩, ⟨hy0, hy1⟩, ⟨hs0, hs1⟩, -⟩ := hc
    by_cases h : s ≥ 64
    · have hs : s.toNat = 64 + (s - 64).toNat := by omega
      have e : wVal x y / pow2 s.toNat = x / pow2 (s - 64).toNat := by
        rw [hs, pow2_add, pow2_64, ← Int.ediv_ediv_of_nonneg (by omega)]
        congr 1; unfold wVal; omega
      have q0 : 0 ≤ x / pow2 (s - 64).toNat := Int.ediv_nonneg hx0 (Int.le_of_lt (pow2_pos _))
      have q1 : x / pow2 (s - 64).toNat ≤ x := Int.ediv_le_self _ hx0
      refine ⟨_, (cond_t (decide_eq_true h)).trans (agg2 _ ?_ ?_), ?_⟩
      · rw [e]; unfold wHi; omega
      · rw [w64s (by omega) (by omega), min64 (by omega) (by omega), e]; unfold wLo; omega
      · rw [w64s (by omega) (by omega)]; simp; omega
    · have hpq : pow2 s.toNat * pow2 (64 - s).toNat = 18446744073709551616 := by rw [← pow2_add, ← pow2_64]; congr 1; omega
      obtain ⟨g1, g2, g3, g5, g6, g7, g8⟩ := shr_lt x y (pow2 s.toNat) (pow2 (64 - s).toNat) (pow2_pos _) (pow2_pos _) hpq hy0 hy1
      refine ⟨_, (cond_f (decide_eq_false h)).trans (agg2 _ ?_ ?_), ?_⟩
      · rw [min64 (s := s) (by omega) (by omega), g1]
      · rw [w64s (by omega) (by omega), min64 (s := s) (by omega) (by omega), min64 (s := 64 - s) (by omega) (by omega), wr_u, g2, g3]
        exact (ior_add _ _ _ g8 g5 g6 g7).2
      · rw [w64s (by omega) (by omega)]; simp; omega
  · cases hF

def plusS : List LV → Option (LV × List (Bool × Bool))
  | [.v (.agg [.int .u64 x, .int .u64 y]), .v (.agg [.int .u64 x', .int .u64 y'])] => some (.v (B1 ((wVal x y + wVal x' y') % 340282366920938463463374607431768211456)), [(isU x, true), (isU y, true), (isU x', true), (isU y', true)])
  | _ => none
theorem sumPlus : SumOK Try.prog 113 (pureSum plusS) := by
  refine sumwplus.pure_re fun args v cs hF hc => ?_
  unfold plusS at hF
  split at hF
  · rename_i x y x' y'
    cases hF
    simp only [all_tt, isU_iff, Bool.and_eq_true, decide_eq_true_eq] at hc
    obtain ⟨⟨hx0, hx1⟩, ⟨hy0, hy1⟩, ⟨hx0', hx1'⟩, ⟨hy0', hy1'⟩, -⟩ := hc
    refine ⟨_, agg2 (a := u64 _) _ ?_ ?_, ?_⟩
    · unfold u64 wHi wVal; omega
    · unfold u64 wLo wVal; omega
    · simp; omega
  · cases hF

def minusS : List LV → Option (LV × List (Bool × Bool))
  | [.v (.agg [.int .u64 x, .int .u64 y]), .v (.agg [.int .u64 x', .int .u64 y'])] => some (.v (B1 ((wVal x y - wVal x' y') % 340282366920938463463374607431768211456)), [(isU x, true), (isU y, true), (isU x', true), (isU y', true)])
  | _ => none
theorem sumMinus : SumOK Try.prog 147 (pureSum minusS) := by
  refine sumwminus.pure_re fun args v cs hF hc => ?_
  unfold minusS at hF
  split at hF
  · rename_i x y x' y'
    cases hF
    simp only [all_tt, isU_iff, Bool.and_eq_true, decide_eq_true_eq] at hc
    obtain ⟨⟨hx0, hx1⟩, ⟨hy0, hy1⟩, ⟨hx0', hx1'⟩, ⟨hy0', hy1'⟩, -⟩ := hc
    have hb : borrow y y' 0 = if y < y' then 1 else 0 := by unfold borrow; simp
    refine ⟨_, agg2 (a := u64 _) _ ?_ ?_, ?_⟩
    · rw [hb]; unfold u64 wHi wVal; split <;> omega
    · unfold u64 wLo wVal; omega
    · rw [hb]; split <;> simp <;> omega
  · cases hF

def lessS : List LV → Option (LV × List (Bool × Bool))
  | [.v (.agg [.int .u64 x, .int .u64 y]), .v (.agg [.int .u64 x', .int .u64 y'])] => some (.v (.one (.bool (decide (wVal x y < wVal x' y')))), [(isU y, true), (isU y', true)])
  | _ => none
theorem sumLess : SumOK Try.prog 146 (pureSum lessS) := by
  refine sumwless.pure_re fun args v cs hF hc => ?_
  unfold lessS at hF
  split at hF
  · rename_i x y x' y'
    cases hF
    simp only [all_tt, isU_iff, Bool.and_eq_true, decide_eq_true_eq] at hc
    obtain ⟨⟨hy0, hy1⟩, ⟨hy0', hy1'⟩, -⟩ := hc
    by_cases h1 : x < x'
    · refine ⟨_, (cond_t (decide_eq_true h1)).trans (oneB _ ?_), ae_nil⟩
      symm; rw [decide_eq_true_eq]; unfold wVal; omega
    · by_cases h2 : x = x'
      · refine ⟨_, (cond_f (decide_eq_false h1)).trans ((cond_t (by simpa using h2)).trans (oneB _ ?_)), ae_nil⟩
        rw [decide_eq_decide]; subst h2; unfold wVal; omega
      · refine ⟨_, (cond_f (decide_eq_false h1)).trans ((cond_f (by simpa using h2)).trans (oneB _ ?_)), ae_nil⟩
        symm; rw [decide_eq_false_iff_not]; unfold wVal; omega
  · cases hF

def absS : List LV → Option (LV × List (Bool × Bool))
  | [.v (.agg [.int .i64 x, .int .u64 y])] => some (.tup [B1 (absV (wVal x y)), .one (.bool (decide (wVal x y < 0)))], [(isI x, true), (isU y, true)])
  | _ => none
theorem sumAbs : SumOK Try.prog 112 (pureSum absS) := by
  refine sumwabs.pure_re fun args v cs hF hc => ?_
  unfold absS at hF
  split at hF
  · rename_i x y
    cases hF
    simp only [all_tt, isU_iff, isI_iff, Bool.and_eq_true, decide_eq_true_eq] at hc
    obtain ⟨⟨hx0, hx1⟩, ⟨hy0, hy1⟩, -⟩ := hc
    by_cases h : x ≥ 0
    · have hn : ¬ wVal x y < 0 := by unfold wVal; omega
      refine ⟨_, (cond_t (decide_eq_true h)).trans (tup21 _ ?_ ?_ ?_), ae_nil⟩
      · rw [wr_u]; unfold absV; rw [if_neg hn]; unfold u64 wHi wVal; omega
      · unfold absV; rw [if_neg hn]; unfold wLo wVal; omega
      · simpa using hn
    · have hn : wVal x y < 0 := by unfold wVal; omega
      have hux : 0 ≤ u64 x ∧ u64 x < 18446744073709551616 := by unfold u64; omega
      refine ⟨_, (cond_f (decide_eq_false h)).trans (tup21 _ ?_ ?_ ?_), ?_⟩
      · simp only [wr_u]; rw [lnot y hy0 hy1, lnot (u64 x) hux.1 hux.2]; unfold absV; rw [if_pos hn]; unfold u64 wHi wVal; omega
      · rw [lnot y hy0 hy1]; unfold absV; rw [if_pos hn]; unfold u64 wLo wVal; omega
      · simpa using hn
      · rw [lnot y hy0 hy1]; simp; omega
  · cases hF

def sg64S : List LV → Option (LV × List (Bool × Bool))
  | [.v (.agg [.int .u64 x, .int .u64 y]), .v (.one (.bool neg))] => some (.tup [.one (.int .i64 (if isI (sgn neg (wVal x y)) = true then sgn neg (wVal x y) else 0)), .one (.bool (isI (sgn neg (wVal x y))))], [(isU x, true), (isU y, true)])
  | _ => none

theorem sumSg64 : SumOK Try.prog 115 (pureSum sg64S) := by
  refine sumsg64.pure_re fun args v cs hF hc => ?_
  unfold sg64S at hF
  split at hF
  · rename_i x y n
    cases hF
    simp only [all_tt, isU_iff, Bool.and_eq_true, decide_eq_true_eq] at hc
    obtain ⟨⟨hx0, hx1⟩, ⟨hy0, hy1⟩, -⟩ := hc
    show ∃ cs', sg64T x y n = _ ∧ _
    have hm : wr .i64 (wr .u64 (0 - y)) = w64 (-y) := by rw [wr_u, wr_i]; unfold w64 u64; omega
    by_cases h1 : x = 0
    · subst h1
      have hv : wVal 0 y = y := by unfold wVal; omega
      rw [hv]
      cases n with
      | false =>
        have hs : sgn false y = y := rfl
        rw [hs]
        by_cases h2 : y > 9223372036854775807
        · have hi : isI y = false := by unfold isI; simp; omega
          refine ⟨[], (cond_f rfl).trans ((cond_t rfl).trans ((cond_t (decide_eq_true h2)).trans (tup11 _ ?_ hi.symm))), ae_nil⟩
          rw [hi]; rfl
        · have hi : isI y = true := isI_iff.2 (by omega)
          refine ⟨[], (cond_f rfl).trans ((cond_t rfl).trans ((cond_f (decide_eq_false h2)).trans ((cond_f rfl).trans (tup11 _ ?_ hi.symm)))), ae_nil⟩
          rw [hi, if_pos rfl, wr_i]; unfold w64; omega
      | true =>
        have hs : sgn true y = -y := rfl
        rw [hs]
        by_cases h2 : y > 9223372036854775808
        · have hi : isI (-y) = false := by unfold isI; simp; omega
          refine ⟨[], (cond_f rfl).trans ((cond_f rfl).trans ((cond_t rfl).trans ((cond_t (decide_eq_true h2)).trans (tup11 _ ?_ hi.symm)))), ae_nil⟩
          rw [hi]; rfl
        · have hi : isI (-y) = true := isI_iff.2 (by omega)
          refine ⟨[], (cond_f rfl).trans ((cond_f rfl).trans ((cond_t rfl).trans ((cond_f (decide_eq_false h2)).trans (tup11 _ ?_ hi.symm)))), ae_nil⟩
          rw [hi, if_pos rfl, hm]; unfold w64; omega
    · have hi : isI (sgn n (wVal x y)) = false := by
        rw [← Bool.not_eq_true, isI_iff]
        cases n <;> unfold sgn wVal <;> simp <;> omega
      refine ⟨[], (cond_t (by simpa using h1)).trans (tup11 _ ?_ hi.symm), ae_nil⟩
      rw [hi]; rfl
  · cases hF

def ofS : List LV → Option (LV × List (Bool × Bool))
  | [.v (.one (.int .i64 a))] => some (.v (W1 a), [(isI a, true)])
  | _ => none
theorem sumOf : SumOK Try.prog 54 (pureSum ofS) := by
  refine sumwof.pure_re fun args v cs hF hc => ?_
  unfold ofS at hF
  split at hF
  · rename_i a
    cases hF
    simp only [all_tt, isU_iff, isI_iff, Bool.and_eq_true, decide_eq_true_eq] at hc
    obtain ⟨⟨hx0, hx1⟩, -⟩ := hc
    refine ⟨_, agg2 (a := a / _) _ ?_ ?_, ae_nil⟩
    · rw [pow2_63i]; unfold wHi; omega
    · rfl
  · cases hF

def addS : List LV → Option (LV × List (Bool × Bool))
  | [.v (.agg [.int .i64 x, .int .u64 y]), .v (.agg [.int .i64 x', .int .u64 y'])] =>
    some (.tup [.agg [.int .i64 (w64 (wHi (wVal x y + wVal x' y'))), .int .u64 (wLo (wVal x y + wVal x' y'))], .one (.bool (isW (wVal x y + wVal x' y')))], [(isI x, true), (isU y, true), (isI x', true), (isU y', true)])
  | _ => none
theorem sumAdd1 : SumOK Try.prog 108 (pureSum addS) := by
  refine sumwadd.pure_re fun args v cs hF hc => ?_
  unfold addS at hF
  split at hF
  · rename_i x y x' y'
    cases hF
    simp only [all_tt, isU_iff, isI_iff, Bool.and_eq_true, decide_eq_true_eq] at hc
    obtain ⟨⟨hx0, hx1⟩, ⟨hy0, hy1⟩, ⟨hx0', hx1'⟩, ⟨hy0', hy1'⟩, -⟩ := hc
    have e1 : w64 (u64 (u64 x + u64 x' + (y + y' + 0) / 18446744073709551616)) = w64 (wHi (wVal x y + wVal x' y')) := by unfold w64 u64 wHi wVal; omega
    have e2 : u64 (y + y' + 0) = wLo (wVal x y + wVal x' y') := by unfold u64 wLo wVal; omega
    have e3 : 0 ≤ u64 x ∧ 0 ≤ u64 x' := by unfold u64; omega
    by_cases h : (!decide (x < 0) == decide (x' < 0)) = true
    · have h' : ¬ (x < 0 ↔ x' < 0) := by
        by_cases a : x < 0 <;> by_cases b : x' < 0 <;> simp [a, b] at h ⊢
      refine ⟨_, (cond_t h).trans (tup21 _ e1 e2 ?_), ?_⟩
      · symm; rw [isW_iff]; unfold wVal; omega
      · refine ae_cons ?_ (ae_cons ?_ ae_nil) <;> simp only [Bool.and_eq_true, decide_eq_true_eq] <;> (try simp only [wr_u]) <;> omega
    · have h' : (x < 0 ↔ x' < 0) := by
        by_cases a : x < 0 <;> by_cases b : x' < 0 <;> simp [a, b] at h ⊢
      refine ⟨_, (cond_f (by simpa using h)).trans (tup21 _ e1 e2 ?_), ?_⟩
      · rw [Bool.eq_iff_iff, isW_iff, beq_iff_eq, decide_eq_decide]
        show (w64 (u64 (u64 x + u64 x' + (y + y' + 0) / 18446744073709551616)) < 0 ↔ _) ↔ _
        rw [e1]
        unfold w64 wHi wVal; omega
      · refine ae_cons ?_ (ae_cons ?_ ae_nil) <;> simp only [Bool.and_eq_true, decide_eq_true_eq] <;> (try simp only [wr_u]) <;> omega
  · cases hF

def S6 : FuncId → Option SumK := more (more (more (more (more (more (more (more (more (S5) 114 (pureSum shlS)) 116 (pureSum shrS)) 113 (pureSum plusS)) 147 (pureSum minusS)) 146 (pureSum lessS)) 112 (pureSum absS)) 115 (pureSum sg64S)) 54 (pureSum ofS)) 108 (pureSum addS)
theorem sound6 : Sound Try.prog S6 := (((((((((sound5).more sumShl).more sumShr).more sumPlus).more sumMinus).more sumLess).more sumAbs).more sumSg64).more sumOf).more sumAdd1
end Go.Proofs.Ytnabopepomjncaa
