/- The local evaluator: every operation, and calls that are told of. -/
import Derived.Test.YtjbikokffafdbaaLrS5
namespace Go.Lr
open Go.RowKit

/-- What may be named behind an operation. -/
def pn (p : Nat → Bool) (nb k : Nat) : Nat → Bool := fun i => p i || (decide (nb ≤ i) && decide (i < nb + k))

theorem pn_of {p : Nat → Bool} {nb k i : Nat} (h : p i = true) : pn p nb k i = true := by simp [pn, h]

structure OkD (p : Nat → Bool) (g : Nat → Option Blk) (nb : Nat) (d : Dl) : Prop where
  val : d.val.ok (pn p nb d.nw.length) = true
  wr : ∀ x ∈ d.wr, ∀ b, x.2 = some b → okL (pn p nb d.nw.length) b.cells = true
  nw : okBs (pn p nb d.nw.length) d.nw = true
  live : ∀ x ∈ d.wr, (g x.1).isSome
  nd : (d.wr.map (·.1)).Nodup

theorem OkD.plain {p : Nat → Bool} {g : Nat → Option Blk} {nb : Nat} {d : Dl} (h1 : d.wr = []) (h2 : d.nw = []) (hv : d.val.ok p = true) : OkD p g nb d :=
  ⟨LV.ok_mono (fun _ h => pn_of h) hv, by simp [h1], by simp [h2, okBs], by simp [h1], by simp [h1]⟩

theorem OkD.val1 {p : Nat → Bool} {g : Nat → Option Blk} {nb : Nat} {d : Dl} {x : At} (h : val1 x = some d) (hx : x.ok p = true) : OkD p g nb d := by
  cases h; exact .plain rfl rfl hx

theorem OkD.ask {p : Nat → Bool} {g : Nat → Option Blk} {nb : Nat} {d : Dl} {x : At} {kn b : Bool} (h : (ask kn b false fun cs => some ⟨.v (.one x), [], [], [], cs⟩) = some d) (hx : x.ok p = true) : OkD p g nb d := by
  unfold Go.Lr.ask at h
  cases kn <;> cases b <;> simp at h
  · cases h; exact .plain rfl rfl hx
  · cases h; exact .plain rfl rfl hx
  · cases h; exact .plain rfl rfl hx

section
variable {P : Program} {E : Env} {τ : Nat → LV} {a : Act} {w : World} {g : Nat → Option Blk} {nb : Nat} {p : Nat → Bool}

theorem binII_ok {op : BinOp} {k k' : IntKind} {x y : Int} {kn : Bool} {d : Dl} (h : binII op k x k' y kn = some d) : OkD p g nb d := by
  unfold binII at h
  split at h
  · exact .ask h rfl
  · exact .ask h rfl
  · split at h
    · unfold binI at h
      split at h <;> first
        | exact .val1 h rfl
        | exact .ask h rfl
        | (split at h <;> first | exact .val1 h rfl | cases h)
    · cases h

theorem unD_ok {op : UnOp} {x : LV} {d : Dl} (h : unD op x = some d) : OkD p g nb d := by
  unfold unD at h
  split at h
  · exact .val1 h rfl
  · split at h
    · exact .val1 h rfl
    · cases h
  · exact .val1 h rfl
  · cases h

theorem convD_ok {t u : TypeId} {x : LV} {d : Dl} (h : convD P t u x = some d) : OkD p g nb d := by
  unfold convD at h
  split at h
  · exact .val1 h rfl
  · cases h

theorem fieldD_ok {t : TypeId} {x : LV} {i : Nat} {d : Dl} (h : fieldD P t x i = some d) (hx : x.ok p = true) : OkD p g nb d := by
  unfold fieldD at h
  split at h
  · split at h
    · split at h
      · rename_i v hv
        cases h
        exact .plain rfl rfl (partV_ok hv hx)
      · cases h
    · cases h
  · cases h

theorem indexD_ok {t : TypeId} {x ix : LV} {d : Dl} (h : indexD P t x ix = some d) (hx : x.ok p = true) : OkD p g nb d := by
  unfold indexD at h
  split at h
  · split at h
    · split at h
      · rename_i v hv
        cases h
        exact .plain rfl rfl (partV_ok hv hx)
      · cases h
    · cases h
  · cases h

theorem extractD_ok {x : LV} {i : Nat} {d : Dl} (h : extractD x i = some d) (hx : x.ok p = true) : OkD p g nb d := by
  unfold extractD at h
  split at h
  · obtain ⟨v, hv, rfl⟩ := extractD_nth_spec h
    exact .plain rfl rfl (okVs_iff.1 hx v (List.mem_of_getElem? hv))
  · cases h

theorem fieldAddrD_ok {t : TypeId} {x : LV} {i : Nat} {d : Dl} (h : fieldAddrD P t x i = some d) (hx : x.ok p = true) : OkD p g nb d := by
  unfold fieldAddrD at h
  split at h
  · split at h
    · split at h
      · exact .val1 h hx
      · cases h
    · cases h
  · cases h

theorem indexAddrD_ok {t : TypeId} {x ix : LV} {d : Dl} (h : indexAddrD P t x ix = some d) (hx : x.ok p = true) : OkD p g nb d := by
  unfold indexAddrD at h
  split at h
  · split at h
    · exact .val1 h hx
    · cases h
  · split at h
    · exact .val1 h hx
    · cases h
  · split at h
    · exact .val1 h hx
    · cases h
  · cases h

theorem sliceD_ok {t : TypeId} {x : LV} {lo hi : Option LV} {d : Dl} (h : sliceD P t x lo hi = some d) (hx : x.ok p = true) : OkD p g nb d := by
  unfold sliceD at h
  split at h
  · split at h
    · split at h
      · split at h <;> exact .val1 h hx
      · cases h
    · cases h
  · split at h
    · split at h
      · split at h <;> exact .val1 h hx
      · cases h
    · cases h
  · cases h

theorem lenD_ok {t : TypeId} {x : LV} {d : Dl} (h : lenD P t x = some d) : OkD p g nb d := by
  unfold lenD at h
  split at h <;> first | exact .val1 h rfl | cases h

theorem minMax_ok : ∀ {mx : Bool} {l : List LV} {k : IntKind} {x : Int} {d : Dl}, minMax mx k x l = some d → OkD p g nb d := by
  intro mx l
  induction l with
  | nil => intro k x d h; simp only [minMax] at h; exact .val1 h rfl
  | cons y l ih =>
    intro k x d h
    unfold minMax at h
    split at h
    · rename_i he; cases he
    · rename_i he
      cases he
      split at h <;> exact ih h
    · cases h

theorem minMaxD_ok {mx : Bool} {l : List LV} {d : Dl} (h : minMaxD mx l = some d) : OkD p g nb d := by
  unfold minMaxD at h
  split at h
  · exact minMax_ok h
  · cases h

theorem buildD_ok {t : TypeId} {parts : List (Nat × LV)} {d : Dl} (h : buildD P t parts = some d) (hp : ∀ q ∈ parts, q.2.ok p = true) : OkD p g nb d := by
  unfold buildD at h
  split at h
  · rename_i z hz
    obtain ⟨_, _, _, h3⟩ := zeroT_spec hz default
    split at h
    · split at h
      · rename_i l _ hl
        cases h
        exact .plain rfl rfl (fillS_ok hl (h3 p) hp)
      · cases h
    · split at h
      · split at h
        · rename_i l hl
          cases h
          exact .plain rfl rfl (fillA_ok hl (h3 p) hp)
        · cases h
      · cases h
    · cases h
  · cases h

theorem makeFuncD_ok {f : Fn} {first : List Operand} {caps : List LV} {d : Dl} (h : makeFuncD f first caps = some d) (hp : ∀ v ∈ caps, v.ok p = true) : OkD p g nb d := by
  unfold makeFuncD at h
  split at h
  · rename_i l hl
    refine .val1 h ?_
    simp only [At.ok, List.all_eq_true]
    exact fun q hq => ptrsOf_ok hl hp q hq
  · cases h

theorem pickD_ok (hp : ∀ t, (τ t).ok p = true) {pd : Option Bool} {c x y : Operand} {d : Dl} (h : pickD τ pd c x y = some d) : OkD p g nb d := by
  unfold pickD at h
  split at h
  · split at h
    · split at h
      · rename_i v hv
        cases h
        exact .plain rfl rfl (ev_ok hp hv)
      · cases h
    · split at h
      · rename_i v hv
        cases h
        exact .plain rfl rfl (ev_ok hp hv)
      · cases h
    · cases h
  · cases h

theorem pn_self {p : Nat → Bool} {nb : Nat} : pn p nb 1 nb = true := by simp [pn]

theorem okd_new {p : Nat → Bool} {b : Blk} {v : LV} (hv : v.ok (pn p nb 1) = true) (hb : okL p b.cells = true) : OkD p g nb ⟨v, [], [b], [], []⟩ :=
  ⟨hv, by simp, okBs_iff.2 fun x hx => by rw [List.mem_singleton] at hx; subst hx; exact okL_mono (fun _ h => pn_of h) hb, by simp, by simp⟩

theorem allocD_ok {t : TypeId} {d : Dl} (h : allocD P nb t = some d) : OkD p g nb d := by
  unfold allocD at h
  split at h
  · rename_i l hl
    obtain ⟨_, _, _, h3⟩ := zeroT_spec hl default
    cases h
    exact okd_new pn_self (h3 p)
  · cases h

theorem boxD_ok {t : TypeId} {v : LV} {d : Dl} (h : boxD nb t v = some d) (hv : v.ok p = true) : OkD p g nb d := by
  unfold boxD at h
  split at h
  · rename_i l hl
    cases h
    exact okd_new pn_self (cellsOfV_ok hl hv)
  · cases h

theorem buildSliceD_ok {t : TypeId} {n : Nat} {parts : List (Nat × LV)} {d : Dl} (h : buildSliceD P nb t n parts = some d) (hp : ∀ q ∈ parts, q.2.ok p = true) : OkD p g nb d := by
  unfold buildSliceD at h
  split at h
  · split at h
    · rename_i s z hs hz
      obtain ⟨_, _, _, h3⟩ := zeroT_spec hz default
      split at h
      · rename_i l _ _ _ hl
        cases h
        exact okd_new pn_self (fillA_ok hl (repeatL_ok (h3 p) n) hp)
      · cases h
    · cases h
  · cases h

theorem loadD_ok {t : TypeId} {v : LV} {d : Dl} (hg : ∀ i c, g i = some c → p i = true ∧ okL p c.cells = true) (h : loadD P t v g = some d) : OkD p g nb d := by
  unfold loadD at h
  split at h
  · split at h
    · rename_i k hk
      split at h
      · rename_i x hx
        cases h
        exact .plain rfl rfl (partV_ok hx (hg _ _ hk).2)
      · cases h
    · cases h
  · cases h

theorem storeD_ok {t : TypeId} {u v : LV} {d : Dl} (hg : ∀ i c, g i = some c → p i = true ∧ okL p c.cells = true) (hv : v.ok p = true) (h : storeD P t u v g = some d) : OkD p g nb d := by
  unfold storeD at h
  split at h
  · split at h
    · rename_i ty es l hk
      split at h
      · rename_i vs n hvs hn
        split at h
        · rename_i r hlen hlay
          cases h
          refine ⟨rfl, fun x hx b hb => ?_, rfl, fun x hx => ?_, by simp⟩
          · rw [List.mem_singleton] at hx
            subst hx
            cases hb
            exact okL_mono (fun _ h => pn_of h) (lay_ok hlay (hg _ _ hk).2 (cellsOfV_ok hvs hv))
          · rw [List.mem_singleton] at hx
            subst hx
            simp [hk]
        · cases h
      · cases h
    · cases h
  · cases h

-- calls
/-- A function, called: it is walked into, or the model answers by itself. -/
def CallOK (P : Program) (f : FuncId) (args : Array Value) (w : World) (R : Value → World → Prop) : Prop :=
  (∃ fn, P.funcs[f]? = some fn ∧ fn.name ≠ "runtime.NumGoroutine" ∧ fn.body.isSome ∧ Calls P f args w fun e w' => ∃ v, e = .returned v ∧ R v w') ∨
    ∃ v w', (callFunc f args).run P w = .ok (.value v) w' ∧ R v w'

/-- What a summary promises. -/
def SumOK (P : Program) (f : FuncId) (s : Sum) : Prop :=
  ∀ (args : List LV) (t : Tch) (g : Nat → Option Blk) (nb : Nat) (p : Nat → Bool) (rdB wrB : List Blk) (ans : Ans) (ws : List (Nat × Option Blk)) (E : Env) (w : World),
    s args = some t → liveAll g t.rd = some rdB → liveAll g t.wr = some wrB → nodupB t.wr = true → t.go rdB wrB nb = some ans → zipW t.wr ans.wr = some ws → (∀ c ∈ ans.cs, c.1 = c.2) →
    Rel E g w → (∀ i c, g i = some c → p i = true ∧ okL p c.cells = true) → (∀ v ∈ args, v.ok p = true) → (∀ i, nb ≤ i → i < nb + ans.nw.length → p i = false) →
    CallOK P f (args.map (LV.den E)).toArray w fun v w' => ∃ E', v = ans.val.den E' ∧ Post w E g nb ⟨ans.val, ws, ans.nw, [], []⟩ E' w'

/-- All summaries hold. -/
def AllOK (P : Program) (S : FuncId → Option Sum) : Prop := ∀ f s, S f = some s → SumOK P f s

theorem callee_spec (hτ : ∀ t, a.eval (.tmp t) = (τ t).den E) {c : Call} {f : FuncId} {args : List LV} (h : callee τ c = some (f, args)) (ty : TypeId) :
    (do let d ← resolve a.eval c ty; invoke d.target d.args : Sem Next) = callFunc f (args.map (LV.den E)).toArray := by
  unfold callee at h
  split at h
  · rename_i x hx
    split at h
    · rename_i f' caps args' hf hargs
      cases h
      have h1 := ev_spec hτ hf
      have h2 := evs_spec hτ hargs
      have h3 : c.args.map a.eval = (args'.map (LV.den E)).toArray := by
        rw [← h2]
        rcases c with ⟨_, ⟨l⟩, _⟩
        simp
      unfold resolve
      rw [hx]
      simp only [h1, h3, LV.den, V1.den, At.den, Deferred.ofValue, pure_bind, invoke]
      congr 1
      simp [LV.den, V1.den, At.den]
    · cases h
  · cases h

theorem callee_ok (hp : ∀ t, (τ t).ok p = true) {c : Call} {f : FuncId} {args : List LV} (h : callee τ c = some (f, args)) : ∀ v ∈ args, v.ok p = true := by
  unfold callee at h
  split at h
  · split at h
    · rename_i f' caps args' hf hargs
      cases h
      intro v hv
      rcases List.mem_append.1 hv with hv | hv
      · exact evs_ok hp hargs v hv
      · obtain ⟨q, hq, rfl⟩ := List.mem_map.1 hv
        have := ev_ok hp hf
        simp only [LV.ok, V1.ok, At.ok, List.all_eq_true] at this
        exact this q hq
    · cases h
  · cases h

theorem CallOK.wp {o : Oper} {c : Call} {f : FuncId} {args : List LV} {R : Value → World → Prop} {K : Act → World → Prop} {Q : Exit → Act → World → Prop} (ho : o.op = .call c)
    (hτ : ∀ t, a.eval (.tmp t) = (τ t).den E) (hc : callee τ c = some (f, args)) (h : CallOK P f (args.map (LV.den E)).toArray w R)
    (hk : ∀ v w', R v w' → K (a.put o.dst v) w') : o.wp P a w K Q := by
  unfold Oper.wp execOp
  simp only [ho]
  rw [callee_spec hτ hc]
  rcases h with ⟨fn, h1, h2, h3, h4⟩ | ⟨v, w', h1, h2⟩
  · have hrun : (callFunc f (args.map (LV.den E)).toArray).run P w = .ok (.enter f (args.map (LV.den E)).toArray) w := by
      unfold callFunc
      obtain ⟨bd, hbd⟩ := Option.isSome_iff_exists.1 h3
      simp [program, h1, h2, hbd, Sem.run]
    rw [hrun]
    simp only [Oper.upon]
    refine h4.mono fun e w' he => ?_
    obtain ⟨v, rfl, hv⟩ := he
    exact hk v w' hv
  · rw [h1]
    exact hk v w' h2

theorem memB_iff : ∀ {l : List Nat} {i : Nat}, memB l i = true ↔ i ∈ l
  | [], i => by simp [memB]
  | a :: l, i => by
    simp only [memB, nbeq]
    by_cases h : a = i
    · simp [h]
    · simp [h, memB_iff (l := l), Ne.symm h]

theorem nodupB_iff : ∀ {l : List Nat}, nodupB l = true ↔ l.Nodup
  | [] => by simp [nodupB]
  | a :: l => by
    simp only [nodupB, List.nodup_cons]
    cases h : memB l a
    · have : a ∉ l := fun hm => by rw [memB_iff.2 hm] at h; cases h
      simp [this, nodupB_iff (l := l)]
    · simp [memB_iff.1 h]

theorem liveAll_some : ∀ {l : List Nat} {r : List Blk}, liveAll g l = some r → ∀ i ∈ l, (g i).isSome
  | [], r, _ => by simp
  | b :: l, r, h => by
    simp only [liveAll] at h
    split at h
    · rename_i k r' hk hr
      simp only [List.mem_cons, forall_eq_or_imp]
      exact ⟨by simp [hk], liveAll_some hr⟩
    · cases h

theorem zipW_keys : ∀ {l : List Nat} {bs : List Blk} {ws : List (Nat × Option Blk)}, zipW l bs = some ws → ws.map (·.1) = l ∧ ∀ x ∈ ws, ∃ b ∈ bs, x.2 = some b
  | [], [], ws, h => by simp only [zipW] at h; cases h; simp
  | [], b :: bs, ws, h => by simp [zipW] at h
  | i :: l, [], ws, h => by simp [zipW] at h
  | i :: l, b :: bs, ws, h => by
    simp only [zipW] at h
    split at h
    · rename_i r hr
      cases h
      obtain ⟨h1, h2⟩ := zipW_keys hr
      refine ⟨by simp [h1], fun x hx => ?_⟩
      rcases List.mem_cons.1 hx with rfl | hx
      · exact ⟨b, by simp, rfl⟩
      · obtain ⟨b', hb', he⟩ := h2 x hx
        exact ⟨b', by simp [hb'], he⟩
    · cases h

theorem sumD_ok {t : Tch} {d : Dl} (hg : ∀ i c, g i = some c → p i = true ∧ okL p c.cells = true) (h : sumD t g nb = some d) : OkD p g nb d := by
  unfold sumD at h
  split at h
  · rename_i r ws' hr hw hnd
    split at h
    · rename_i ans hans
      split at h
      · rename_i ws hws
        split at h
        · rename_i k1 k2 k3
          cases h
          have hname : ∀ i, mayName t nb (lenB ans.nw) i = true → pn p nb ans.nw.length i = true := by
            intro i hi
            unfold mayName at hi
            cases h1 : memB t.rd i with
            | true =>
              obtain ⟨c, hc⟩ := Option.isSome_iff_exists.1 (liveAll_some hr i (memB_iff.1 h1))
              exact pn_of (hg i c hc).1
            | false =>
              cases h2 : memB t.wr i with
              | true =>
                obtain ⟨c, hc⟩ := Option.isSome_iff_exists.1 (liveAll_some hw i (memB_iff.1 h2))
                exact pn_of (hg i c hc).1
              | false =>
                simp only [h1, h2, nble, nblt, lenB_eq] at hi
                by_cases h3 : nb ≤ i
                · simp only [h3, decide_true] at hi
                  simp only [pn, h3, decide_true, Bool.true_and, hi, Bool.or_true]
                · simp [h3] at hi
          obtain ⟨z1, z2⟩ := zipW_keys hws
          refine ⟨LV.ok_mono hname k1, fun x hx b hb => ?_, okBs_mono hname k3, fun x hx => ?_, ?_⟩
          · obtain ⟨b', hb', he⟩ := z2 x hx
            rw [he] at hb
            rw [← Option.some.inj hb]
            exact okL_mono hname (okBs_iff.1 k2 b' hb')
          · exact liveAll_some hw x.1 (by rw [← z1]; exact List.mem_map_of_mem hx)
          · show (ws.map (·.1)).Nodup
            rw [z1]
            exact nodupB_iff.1 hnd
        · cases h
      · cases h
    · cases h
  · cases h

theorem sumD_step {S : FuncId → Option Sum} (hS : AllOK P S) (hτ : ∀ t, a.eval (.tmp t) = (τ t).den E) (hp : ∀ t, (τ t).ok p = true) {o : Oper} {c : Call} {f : FuncId} {args : List LV} {s : Sum} {t : Tch} {d : Dl} (ho : o.op = .call c)
    (hc : callee τ c = some (f, args)) (hs : S f = some s) (ht : s args = some t) (h : sumD t g nb = some d) (hr : Rel E g w) (hg : ∀ i c, g i = some c → p i = true ∧ okL p c.cells = true)
    (hn : ∀ i, nb ≤ i → i < nb + d.nw.length → p i = false) : StepOK P o a w E g nb d := by
  unfold sumD at h
  split at h
  · rename_i rB wB hrB hwB hnd
    split at h
    · rename_i ans hans
      split at h
      · rename_i ws hws
        split at h
        · cases h
          intro hcs K Q hk
          refine CallOK.wp ho hτ hc (hS f s hs args t g nb p rB wB ans ws E w ht hrB hwB hnd hans hws hcs hr hg (callee_ok hp hc) hn) ?_
          rintro v w' ⟨E', rfl, hpost⟩
          exact hk E' w' ⟨hpost.agree, hpost.rel, hpost.os, hpost.tape, hpost.output, hpost.size, hpost.frame, hpost.fresh⟩
        · cases h
      · cases h
    · cases h
  · cases h

theorem StepOK.of_pick {o : Oper} {c x y : Operand} {pd : Option Bool} {d : Dl} (hτ : ∀ t, a.eval (.tmp t) = (τ t).den E) (ho : o.op = .pick c x y) (h : pickD τ pd c x y = some d) (hr : Rel E g w) : StepOK P o a w E g nb d := by
  obtain ⟨h1, h2, h3⟩ := pickD_spec (P := P) (w := w) hτ h
  intro hc K Q hk
  have := h3 hc
  unfold Oper.wp execOp
  simp only [ho]
  rw [this]
  exact hk E w (.refl h1 h2 hr)

theorem nilCheckD_step {o : Oper} {x : Operand} {v : LV} {d : Dl} (ho : o.op = .nilCheck x) (hx : a.eval x = v.den E) (h : nilCheckD v = some d) (hr : Rel E g w) : StepOK P o a w E g nb d := by
  unfold nilCheckD at h
  split at h
  · refine .of_pur (s := pure (a.eval x)) hr (pur_val1 h (by rw [hx]; rfl)) ?_
    simp [execOp, ho, hx, LV.den, V1.den, At.den]
  · refine .of_pur (s := pure (a.eval x)) hr (pur_val1 h (by rw [hx]; rfl)) ?_
    simp [execOp, ho, hx, LV.den, V1.den, At.den]
  · cases h

theorem nilCheckD_ok {v : LV} {d : Dl} (h : nilCheckD v = some d) (hv : v.ok p = true) : OkD p g nb d := by
  unfold nilCheckD at h
  split at h
  · exact .val1 h hv
  · exact .val1 h hv
  · cases h

/-- Every operation that the evaluator carries out, but for the comparing of structs and arrays (which stands behind). -/
theorem opD_step {S : FuncId → Option Sum} (hS : AllOK P S) (hτ : ∀ t, a.eval (.tmp t) = (τ t).den E) (hp : ∀ t, (τ t).ok p = true) {z : Bool} {pd : Option Bool} {o : Oper} {d : Dl}
    (hbin : ∀ (op : BinOp) (t : TypeId) (x y : LV) (xo yo : Operand) (kn : Bool) (d : Dl), a.eval xo = x.den E → a.eval yo = y.den E → binD P op t x y kn = some d →
      Pur P E w (do eqGuard op t xo yo (x.den E) (y.den E); binOp op t (x.den E) (y.den E)) d)
    (h : opD P S z τ g nb pd o.op = some d) (hr : Rel E g w) (hg : ∀ i c, g i = some c → p i = true ∧ okL p c.cells = true) (hn : ∀ i, nb ≤ i → i < nb + d.nw.length → p i = false) :
    StepOK P o a w E g nb d := by
  cases ho : o.op <;> rw [ho] at h <;> simp only [opD, on1, on2, onL, onP, moveD, reduceCtorEq] at h
  case move x =>
    split at h
    · rename_i v hv
      cases h
      refine .of_pur (s := pure (a.eval x)) hr (.of_run (by simp [ev_spec hτ hv])) (by simp [execOp, ho])
    · cases h
  case assign x =>
    split at h
    · rename_i v hv
      cases h
      refine .of_pur (s := pure (a.eval x)) hr (.of_run (by simp [ev_spec hτ hv])) (by simp [execOp, ho])
    · cases h
  case pick c x y => exact .of_pick hτ ho h hr
  case alloc t => exact allocD_step ho h hr hg hn
  case box t x =>
    split at h
    · rename_i v hv
      exact boxD_step ho (ev_spec hτ hv) (ev_ok hp hv) h hr hg hn
    · cases h
  case build t parts =>
    split at h
    · rename_i l hl
      refine .of_pur hr (buildD_spec h) ?_
      have h2 : (parts.map fun (i, x) => (i, a.eval x)) = (l.map fun q => (q.1, q.2.den E)).toArray := by
        rw [← evParts_spec hτ hl]
        rcases parts with ⟨l⟩
        simp
      simp only [execOp, ho, h2]
    · cases h
  case buildSlice t n parts =>
    split at h
    · rename_i l hl
      exact buildSliceD_step ho (evParts_spec hτ hl) (evParts_ok hp hl) h hr hg hn
    · cases h
  case load t x =>
    split at h
    · rename_i v hv
      exact .of_pur hr (loadD_spec hr h) (by simp [execOp, ho, ev_spec hτ hv])
    · cases h
  case store t x y =>
    split at h
    · rename_i v hv
      split at h
      · rename_i u hu
        exact storeD_step ho (ev_spec hτ hv) (ev_spec hτ hu) h hr
      · cases h
    · cases h
  case nilCheck x =>
    split at h
    · rename_i v hv
      exact nilCheckD_step ho (ev_spec hτ hv) h hr
    · cases h
  case binOp op t x y ty =>
    split at h
    · rename_i v hv
      split at h
      · rename_i u hu
        have h1 := ev_spec hτ hv
        have h2 := ev_spec hτ hu
        refine .of_pur hr (hbin op t v u x y _ d h1 h2 h) ?_
        simp only [execOp, ho, h1, h2]
      · cases h
    · cases h
  case unOp op t x =>
    split at h
    · rename_i v hv
      exact .of_pur hr (unD_spec h) (by simp [execOp, ho, ev_spec hτ hv])
    · cases h
  case convert t u x =>
    split at h
    · rename_i v hv
      exact .of_pur hr (convD_spec h) (by simp [execOp, ho, ev_spec hτ hv])
    · cases h
  case makeFunc f first caps =>
    split at h
    · rename_i l hl
      refine .of_pur hr (makeFuncD_spec (a := a) h) ?_
      have h2 : caps.map a.eval = (l.map (LV.den E)).toArray := by
        rw [← evs_spec hτ hl]
        rcases caps with ⟨l⟩
        simp
      simp only [execOp, ho, h2]
      rcases first with ⟨l⟩
      simp
    · cases h
  case slice t x lo hi mx =>
    unfold slD at h
    split at h
    · split at h
      · rename_i l hl
        split at h
        · rename_i u hu
          simp only [on1] at h
          split at h
          · rename_i v hv
            refine .of_pur hr (sliceD_spec h) ?_
            have e1 : lo.map a.eval = l.map (LV.den E) := by
              cases lo with
              | none => simp only [oevs] at hl; cases hl; rfl
              | some y =>
                simp only [oevs] at hl
                split at hl
                · rename_i q hq; cases hl; simp [ev_spec hτ hq]
                · cases hl
            have e2 : hi.map a.eval = u.map (LV.den E) := by
              cases hi with
              | none => simp only [oevs] at hu; cases hu; rfl
              | some y =>
                simp only [oevs] at hu
                split at hu
                · rename_i q hq; cases hu; simp [ev_spec hτ hq]
                · cases hu
            simp [execOp, ho, ev_spec hτ hv, e1, e2]
          · cases h
        · cases h
      · cases h
    · cases h
  case fieldAddr t x i =>
    split at h
    · rename_i v hv
      exact .of_pur hr (fieldAddrD_spec h) (by simp [execOp, ho, ev_spec hτ hv])
    · cases h
  case field t x i =>
    split at h
    · rename_i v hv
      exact .of_pur hr (fieldD_spec h) (by simp [execOp, ho, ev_spec hτ hv])
    · cases h
  case indexAddr t x i =>
    split at h
    · rename_i v hv
      split at h
      · rename_i u hu
        exact .of_pur hr (indexAddrD_spec h) (by simp [execOp, ho, ev_spec hτ hv, ev_spec hτ hu])
      · cases h
    · cases h
  case index t x i =>
    split at h
    · rename_i v hv
      split at h
      · rename_i u hu
        exact .of_pur hr (indexD_spec h) (by simp [execOp, ho, ev_spec hτ hv, ev_spec hτ hu])
      · cases h
    · cases h
  case extract x i =>
    split at h
    · rename_i v hv
      exact .of_pur hr (extractD_spec h) (by simp [execOp, ho, ev_spec hτ hv])
    · cases h
  case call c =>
    unfold callD at h
    split at h
    · rename_i b hb
      simp only [onL] at h
      split at h
      · rename_i l hl
        have h2 : c.args.map a.eval = (l.map (LV.den E)).toArray := by
          rw [← evs_spec hτ hl]
          rcases c with ⟨_, ⟨l⟩, _⟩
          simp
        unfold builtinD at h
        split at h
        · rename_i t x he1
          have h3 : c.argTypes = #[t] := by
            rcases c with ⟨_, _, ⟨l⟩⟩
            simpa using he1
          refine .of_pur hr (lenD_spec (ty := o.type) h) ?_
          simp [execOp, ho, resolve, hb, h2, h3, invoke, builtin]
        · refine .of_pur hr (minD_spec (ts := c.argTypes) (ty := o.type) h) ?_
          simp [execOp, ho, resolve, hb, h2, invoke, builtin]
        · refine .of_pur hr (maxD_spec (ts := c.argTypes) (ty := o.type) h) ?_
          simp [execOp, ho, resolve, hb, h2, invoke, builtin]
        · cases h
      · cases h
    · split at h
      · rename_i f args hc
        split at h
        · rename_i s hs
          split at h
          · rename_i t ht
            exact sumD_step hS hτ hp ho hc hs ht h hr hg hn
          · cases h
        · cases h
      · cases h

theorem opD_ok {S : FuncId → Option Sum} (hp : ∀ t, (τ t).ok p = true) {z : Bool} {pd : Option Bool} {op : Op} {d : Dl} (h : opD P S z τ g nb pd op = some d)
    (hg : ∀ i c, g i = some c → p i = true ∧ okL p c.cells = true) : OkD p g nb d := by
  cases op <;> simp only [opD, on1, on2, onL, onP, moveD, reduceCtorEq] at h
  case move x =>
    split at h
    · rename_i v hv; cases h; exact .plain rfl rfl (ev_ok hp hv)
    · cases h
  case assign x =>
    split at h
    · rename_i v hv; cases h; exact .plain rfl rfl (ev_ok hp hv)
    · cases h
  case pick c x y => exact pickD_ok hp h
  case alloc t => exact allocD_ok h
  case box t x =>
    split at h
    · rename_i v hv; exact boxD_ok h (ev_ok hp hv)
    · cases h
  case build t parts =>
    split at h
    · rename_i l hl; exact buildD_ok h (evParts_ok hp hl)
    · cases h
  case buildSlice t n parts =>
    split at h
    · rename_i l hl; exact buildSliceD_ok h (evParts_ok hp hl)
    · cases h
  case load t x =>
    split at h
    · exact loadD_ok hg h
    · cases h
  case store t x y =>
    split at h
    · split at h
      · rename_i u hu; exact storeD_ok hg (ev_ok hp hu) h
      · cases h
    · cases h
  case nilCheck x =>
    split at h
    · rename_i v hv
      exact nilCheckD_ok h (ev_ok hp hv)
    · cases h
  case binOp op t x y ty =>
    split at h
    · split at h
      · unfold binD at h
        split at h
        · split at h
          · exact binII_ok h
          · cases h
        · split at h
          · split at h
            · unfold binEq at h
              split at h
              · split at h
                · exact .val1 h rfl
                · cases h
              · split at h
                · exact .val1 h rfl
                · cases h
              · cases h
            · cases h
          · cases h
      · cases h
    · cases h
  case unOp op t x =>
    split at h
    · exact unD_ok h
    · cases h
  case convert t u x =>
    split at h
    · exact convD_ok h
    · cases h
  case makeFunc f first caps =>
    split at h
    · rename_i l hl; exact makeFuncD_ok h (evs_ok hp hl)
    · cases h
  case slice t x lo hi mx =>
    unfold slD at h
    split at h
    · split at h
      · split at h
        · simp only [on1] at h
          split at h
          · rename_i v hv; exact sliceD_ok h (ev_ok hp hv)
          · cases h
        · cases h
      · cases h
    · cases h
  case fieldAddr t x i =>
    split at h
    · rename_i v hv; exact fieldAddrD_ok h (ev_ok hp hv)
    · cases h
  case field t x i =>
    split at h
    · rename_i v hv; exact fieldD_ok h (ev_ok hp hv)
    · cases h
  case indexAddr t x i =>
    split at h
    · rename_i v hv
      split at h
      · exact indexAddrD_ok h (ev_ok hp hv)
      · cases h
    · cases h
  case index t x i =>
    split at h
    · rename_i v hv
      split at h
      · exact indexD_ok h (ev_ok hp hv)
      · cases h
    · cases h
  case extract x i =>
    split at h
    · rename_i v hv; exact extractD_ok h (ev_ok hp hv)
    · cases h
  case call c =>
    unfold callD at h
    split at h
    · simp only [onL] at h
      split at h
      · unfold builtinD at h
        split at h
        · exact lenD_ok h
        · exact minMaxD_ok h
        · exact minMaxD_ok h
        · cases h
      · cases h
    · split at h
      · split at h
        · split at h
          · exact sumD_ok hg h
          · cases h
        · cases h
      · cases h

end
end Go.Lr
