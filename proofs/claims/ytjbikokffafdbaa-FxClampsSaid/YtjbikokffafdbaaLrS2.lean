/- The local evaluator's operations on numbers, against the model's. -/
import Derived.Test.YtjbikokffafdbaaLrS1
namespace Go.Lr

theorem w64_eq (n : Int) : w64 n = IntKind.i64.wrap n := by
  rw [IntKind.wrap_i64]; unfold w64; omega
theorem u64_eq (n : Int) : u64 n = IntKind.u64.wrap n := by
  unfold u64 IntKind.wrap
  simp [IntKind.bits, IntKind.signed]
theorem wr_eq (k : IntKind) (n : Int) : wr k n = k.wrap n := by
  cases k <;> simp [wr, w64_eq, u64_eq]

theorem kindEq_iff {k l : IntKind} : kindEq k l = true → k = l := by
  cases k <;> cases l <;> simp [kindEq, kindN, nbeq]

theorem pow2_eq (n : Nat) : pow2 n = (2 : Int) ^ n := by
  unfold pow2
  rw [show Nat.pow 2 n = 2 ^ n from rfl]
  simp

section
variable {P : Program} {E : Env} {τ : Nat → LV} {a : Act} {w : World}

theorem ev_spec (hτ : ∀ t, a.eval (.tmp t) = (τ t).den E) {x : Operand} {v : LV} (h : ev τ x = some v) : a.eval x = v.den E := by
  cases x with
  | tmp t => simp only [ev, Option.some.injEq] at h; subst h; exact hτ t
  | const c =>
    simp only [ev] at h
    split at h
    · rename_i y hy; cases h; exact ((ofVal_spec hy).1 E).symm
    · cases h
  | func f => cases h; rfl
  | global g => cases h

theorem ev_ok {p : Nat → Bool} (hp : ∀ t, (τ t).ok p = true) {x : Operand} {v : LV} (h : ev τ x = some v) : v.ok p = true := by
  cases x with
  | tmp t => simp only [ev, Option.some.injEq] at h; subst h; exact hp t
  | const c =>
    simp only [ev] at h
    split at h
    · rename_i y hy; cases h; exact (ofVal_spec hy).2 p
    · cases h
  | func f => cases h; rfl
  | global g => cases h

theorem evs_spec (hτ : ∀ t, a.eval (.tmp t) = (τ t).den E) : ∀ {xs : List Operand} {l : List LV}, evs τ xs = some l → xs.map a.eval = l.map (LV.den E)
  | [], l, h => by cases h; rfl
  | x :: xs, l, h => by
    simp only [evs] at h
    split at h
    · rename_i v r hv hr
      cases h
      simp [ev_spec hτ hv, evs_spec hτ hr]
    · cases h

theorem evs_ok {p : Nat → Bool} (hp : ∀ t, (τ t).ok p = true) : ∀ {xs : List Operand} {l : List LV}, evs τ xs = some l → ∀ v ∈ l, v.ok p = true
  | [], l, h => by cases h; simp
  | x :: xs, l, h => by
    simp only [evs] at h
    split at h
    · rename_i v r hv hr
      cases h
      simp only [List.mem_cons, forall_eq_or_imp]
      exact ⟨ev_ok hp hv, evs_ok hp hr⟩
    · cases h

theorem evParts_spec (hτ : ∀ t, a.eval (.tmp t) = (τ t).den E) : ∀ {xs : List (Nat × Operand)} {l : List (Nat × LV)}, evParts τ xs = some l →
    xs.map (fun (i, x) => (i, a.eval x)) = l.map fun q => (q.1, q.2.den E)
  | [], l, h => by cases h; rfl
  | (i, x) :: xs, l, h => by
    simp only [evParts] at h
    split at h
    · rename_i v r hv hr
      cases h
      simp [ev_spec hτ hv, evParts_spec hτ hr]
    · cases h

theorem evParts_ok {p : Nat → Bool} (hp : ∀ t, (τ t).ok p = true) : ∀ {xs : List (Nat × Operand)} {l : List (Nat × LV)}, evParts τ xs = some l → ∀ v ∈ l, v.2.ok p = true
  | [], l, h => by cases h; simp
  | (i, x) :: xs, l, h => by
    simp only [evParts] at h
    split at h
    · rename_i v r hv hr
      cases h
      simp only [List.mem_cons, forall_eq_or_imp]
      exact ⟨ev_ok hp hv, evParts_ok hp hr⟩
    · cases h

/-- An operation that touches no memory. -/
structure Pur (P : Program) (E : Env) (w : World) (s : Sem Value) (d : Dl) : Prop where
  wr : d.wr = []
  nw : d.nw = []
  run : (∀ c ∈ d.cs, c.1 = c.2) → s.run P w = .ok (d.val.den E) w

theorem pur_val1 {s : Sem Value} {x : At} {d : Dl} (h : val1 x = some d) (hs : s.run P w = .ok (x.den E) w) : Pur P E w s d := by
  cases h; exact ⟨rfl, rfl, fun _ => hs⟩

theorem pur_ask {s : Sem Value} {kn b : Bool} {x : At} {d : Dl} (h : (ask kn b false fun cs => some ⟨.v (.one x), [], [], [], cs⟩) = some d)
    (hs : b = false → s.run P w = .ok (x.den E) w) : Pur P E w s d := by
  unfold ask at h
  cases kn <;> cases b <;> simp at h
  · cases h; exact ⟨rfl, rfl, fun _ => hs rfl⟩
  · cases h; exact ⟨rfl, rfl, fun hc => absurd (hc (true, false) (by simp)) (by simp)⟩
  · cases h; exact ⟨rfl, rfl, fun _ => hs rfl⟩

theorem u64_toNat_lt (x : Int) : (u64 x).toNat < 18446744073709551616 := by unfold u64; omega
theorem ofInt_toNat (x : Int) : (BitVec.ofInt 64 x).toNat = (u64 x).toNat := by
  rw [BitVec.toNat_ofInt]; rfl

theorem bitsN_lt {op : BinOp} {x y r : Nat} (h : bitsN op x y = some r) (hx : x < 18446744073709551616) (hy : y < 18446744073709551616) : r < 18446744073709551616 := by
  have hx' : x < 2 ^ 64 := hx
  have hy' : y < 2 ^ 64 := hy
  show r < 2 ^ 64
  cases op <;> simp only [bitsN, Option.some.injEq, reduceCtorEq] at h <;> subst h
  · exact Nat.and_lt_two_pow x hy'
  · exact Nat.or_lt_two_pow hx' hy'
  · exact Nat.xor_lt_two_pow hx' hy'

theorem bitsV_spec {op : BinOp} {k : IntKind} {x y r : Int} (h : bitsV op k x y = some r) : (Op.intBits op k x y).run P w = .ok (.int k r) w := by
  unfold bitsV at h
  split at h
  · rename_i n hn
    have hlt := bitsN_lt hn (u64_toNat_lt x) (u64_toNat_lt y)
    have hb : (Op.intBits op k x y).run P w = .ok (.int k (k.wrap (n : Int))) w ∨ k.bits ≠ 64 := by
      by_cases hk : k.bits = 64
      · left
        cases op <;> simp only [bitsN, Option.some.injEq, reduceCtorEq] at hn <;> subst hn <;>
          (unfold Op.intBits; simp only [Sem.run_pure]; rw [hk]; simp only [BitVec.toNat_and, BitVec.toNat_or, BitVec.toNat_xor, ofInt_toNat]; rfl)
      · right; exact hk
    cases k <;> simp only [Option.some.injEq, reduceCtorEq] at h
    · subst h
      rcases hb with hb | hb
      · rw [hb, ← w64_eq]; rfl
      · exact absurd rfl hb
    · subst h
      rcases hb with hb | hb
      · rw [hb, ← u64_eq]
        have : u64 (n : Int) = Int.ofNat n := by unfold u64; simp; omega
        rw [this]
      · exact absurd rfl hb
  · cases h

theorem binI_spec {op : BinOp} {k : IntKind} {x y : Int} {kn : Bool} {d : Dl} (t : TypeId) (hop : op ≠ .shl ∧ op ≠ .shr) (h : binI op k x y kn = some d) :
    Pur P E w (binOp op t (.int k x) (.int k y)) d := by
  cases op <;> simp only [binI] at h <;> (try (exact absurd rfl hop.1)) <;> (try (exact absurd rfl hop.2))
  case add => exact pur_val1 h (by simp [binOp, Op.intArith, At.den, wr_eq])
  case sub => exact pur_val1 h (by simp [binOp, Op.intArith, At.den, wr_eq])
  case mul => exact pur_val1 h (by simp [binOp, Op.intArith, At.den, wr_eq])
  case quo =>
    refine pur_ask h fun hb => ?_
    have hy : ¬ y = 0 := by simpa using hb
    simp [binOp, Op.intDiv, At.den, wr_eq, hy]
  case rem =>
    refine pur_ask h fun hb => ?_
    have hy : ¬ y = 0 := by simpa using hb
    simp [binOp, Op.intDiv, At.den, hy]
  case eql => exact pur_val1 h (by simp [binOp, Op.intCmp, At.den])
  case neq => exact pur_val1 h (by simp [binOp, Op.intCmp, At.den])
  case lss => exact pur_val1 h (by simp [binOp, Op.intCmp, At.den])
  case leq => exact pur_val1 h (by simp [binOp, Op.intCmp, At.den])
  case gtr => exact pur_val1 h (by simp [binOp, Op.intCmp, At.den])
  case geq => exact pur_val1 h (by simp [binOp, Op.intCmp, At.den])
  all_goals
    split at h
    · rename_i r hr
      exact pur_val1 h (by simpa [binOp, At.den] using bitsV_spec hr)
    · cases h

theorem shiftI_spec {op : BinOp} {k k' : IntKind} {x y : Int} {kn : Bool} {d : Dl} (t : TypeId) (h : shiftI op k x y kn = some d) :
    Pur P E w (binOp op t (.int k x) (.int k' y)) d := by
  cases op <;> simp only [shiftI, reduceCtorEq] at h
  · refine pur_ask h fun hb => ?_
    have hy : ¬ y < 0 := by simpa using hb
    simp [binOp, Op.shift, At.den, wr_eq, hy, pow2_eq]
  · refine pur_ask h fun hb => ?_
    have hy : ¬ y < 0 := by simpa using hb
    have : x.fdiv (2 ^ min y.toNat k.bits) = x / 2 ^ min y.toNat k.bits := Int.fdiv_eq_ediv_of_nonneg _ (Int.pow_nonneg (by decide))
    simp [binOp, Op.shift, At.den, hy, pow2_eq, this]

theorem binII_spec {op : BinOp} {k k' : IntKind} {x y : Int} {kn : Bool} {d : Dl} (t : TypeId) (h : binII op k x k' y kn = some d) :
    Pur P E w (binOp op t (.int k x) (.int k' y)) d := by
  unfold binII at h
  split at h
  · exact shiftI_spec t h
  · exact shiftI_spec t h
  · rename_i h1 h2
    split at h
    · rename_i hk
      have := kindEq_iff hk
      subst this
      exact binI_spec t ⟨fun e => h1 e, fun e => h2 e⟩ h
    · cases h

theorem unD_spec {op : UnOp} {x : LV} {d : Dl} (h : unD op x = some d) : Pur P E w (Op.unary op (x.den E)) d := by
  unfold unD at h
  split at h
  · exact pur_val1 h (by simp [LV.den, V1.den, At.den, Op.unary, Op.intArith, wr_eq])
  · rename_i k n
    split at h
    · rename_i r hr
      refine pur_val1 h ?_
      simp only [LV.den, V1.den, At.den, Op.unary]
      have hk : bitsV .xor k (if k.signed then -1 else k.max) n = some r := by
        unfold bitsV at hr ⊢
        cases k <;> simp [IntKind.signed] at hr ⊢ <;> exact hr
      exact bitsV_spec hk
    · cases h
  · exact pur_val1 h (by simp [LV.den, V1.den, At.den, Op.unary])
  · cases h

theorem convD_spec {t u : TypeId} {x : LV} {d : Dl} (h : convD P t u x = some d) : Pur P E w (convert t u (x.den E)) d := by
  unfold convD at h
  split at h
  · rename_i ht hu
    refine pur_val1 h ?_
    simp [LV.den, V1.den, At.den, convert, run_underlying ht, run_underlying hu, Conv.intToInt, wr_eq]
  · cases h

end
end Go.Lr
