/- Joined texts. What each part proves stands ahead of it; no condition. -/
import Derived.Test.YtjbikokffafdbaaLrM3

/- What the laws of scalars and roots say of the operations: plain. -/
namespace Go.Proofs.Ytjbikokffafdbaa
open Go.Lr
set_option linter.unusedVariables false

theorem rnd_shift (t : Int) (n m : Nat) : rndV (t * pow2 n) (n + m) = rndV t m := by
  have hp := pow2_pos n
  have key : ∀ x : Int, 0 ≤ x → (x * pow2 n + halfP (n + m)) / pow2 (n + m) = (x + halfP m) / pow2 m := by
    intro x hx
    cases m with
    | zero =>
      have h1 : halfP n < pow2 n := by rcases (halfP_two n).2 with ⟨rfl, h, h'⟩ | h <;> omega
      have h2 := (halfP_le n).1
      show (x * pow2 n + halfP n) / pow2 n = (x + 0) / 1
      rw [Int.add_comm, Int.add_mul_ediv_right _ _ (by omega), Int.ediv_eq_zero_of_lt h2 h1]
      omega
    | succ m =>
      have e1 : halfP (n + (m + 1)) = pow2 n * pow2 m := pow2_add n m
      have e2 : x * pow2 n + pow2 n * pow2 m = pow2 n * (x + pow2 m) := by grind
      rw [e1, e2, pow2_add]
      exact Int.mul_ediv_mul_of_pos _ _ hp
  by_cases h : 0 ≤ t
  · rw [rnd_pos (Int.mul_nonneg h (by omega)), rnd_pos h, key t h]
  · have : t * pow2 n ≤ 0 := by have := Int.mul_neg_of_neg_of_pos (show t < 0 by omega) hp; omega
    rw [rnd_neg this, rnd_neg (by omega), ← Int.neg_mul, key (-t) (by omega)]
theorem rnd_abs (t : Int) (s : Nat) : absV (rndV t s) ≤ absV t := by
  have hp := pow2_pos s
  have h1 : halfP s < pow2 s := by rcases (halfP_two s).2 with ⟨rfl, h, h'⟩ | h <;> omega
  have h2 := (halfP_le s).1
  have key : ∀ x : Int, 0 ≤ x → 0 ≤ (x + halfP s) / pow2 s ∧ (x + halfP s) / pow2 s ≤ x := by
    intro x hx
    refine ⟨Int.ediv_nonneg (by omega) (by omega), ?_⟩
    have h3 : x * 1 ≤ x * pow2 s := Int.mul_le_mul_of_nonneg_left (by omega) hx
    have h4 : (x + halfP s) / pow2 s < x + 1 := Int.ediv_lt_of_lt_mul hp (by have e : (x + 1) * pow2 s = x * pow2 s + pow2 s := by grind
                                                                             omega)
    omega
  by_cases h : 0 ≤ t
  · rw [rnd_pos h, absV_pos h]
    have := key t h
    rw [absV_pos this.1]; exact this.2
  · rw [rnd_neg (by omega), absV_neg (a := t) (by omega)]
    have := key (-t) (by omega)
    rw [absV_negate, absV_pos this.1]; exact this.2
theorem rnd_in {t : Int} (s : Nat) (h0 : -1152921504606846976 ≤ t) (h1 : t ≤ 1152921504606846976) : -1152921504606846976 ≤ rndV t s ∧ rndV t s ≤ 1152921504606846976 := by
  have h := rnd_abs t s
  unfold absV at h
  split at h <;> split at h <;> omega

theorem mul_comm' (a b s : Int) : mulV a b s = mulV b a s := by unfold mulV; rw [Int.mul_comm]
theorem md_comm (a b d : Int) : mulDivV a b d = mulDivV b a d := by unfold mulDivV; rw [Int.mul_comm]
theorem sub_anti (a b : Int) : subV a b = -subV b a := by
  unfold subV
  rw [← sat_odd]; congr 1; omega
theorem mul_mono {a b d s : Int} (h : a ≤ b) (hd : 0 ≤ d) : mulV a d s ≤ mulV b d s := by
  unfold mulV rndS
  split
  · exact Int.le_refl _
  · split
    · exact Int.le_refl _
    · refine sat_mono (rnd_mono ?_ _)
      have h1 := sat_mono h
      have h2 : 0 ≤ satV d := by have := sat_mono hd; exact this
      exact Int.mul_le_mul_of_nonneg_right h1 h2
theorem or_f {a b : Bool} (h : (a || b) = false) : a = false ∧ b = false := by cases a <;> cases b <;> simp_all
theorem mul_ok {a b s : Int} (h : mulH a b s = false) : satV a = a ∧ satV b = b ∧ 0 ≤ s ∧ s ≤ 120 ∧ mulV a b s = rndV (a * b) s.toNat ∧ -1152921504606846976 ≤ rndV (a * b) s.toNat ∧ rndV (a * b) s.toNat ≤ 1152921504606846976 := by
  unfold mulH rndH at h
  obtain ⟨h1, h⟩ := or_f h
  obtain ⟨h2, h⟩ := or_f h
  obtain ⟨h3, h⟩ := or_f h
  obtain ⟨h4, h5⟩ := or_f h
  have a1 := satH_iff.1 h1
  have a2 := satH_iff.1 h2
  have e1 := sat_in a1.1 a1.2
  have e2 := sat_in a2.1 a2.2
  rw [e1, e2] at h5
  have a5 := satH_iff.1 h5
  simp only [decide_eq_false_iff_not] at h3 h4
  refine ⟨e1, e2, by omega, by omega, ?_, a5⟩
  unfold mulV rndS
  rw [e1, e2, if_neg h3, if_neg h4, sat_in a5.1 a5.2]
theorem div_undo {a : Int} (h : mulH a 1048576 0 = false) : divPV (mulV a 1048576 0) 1048576 0 = a := by
  have ha : satH a = false := (or_f h).1
  obtain ⟨e1, -, -, -, e2, b1, b2⟩ := mul_ok h
  rw [rnd0] at e2 b1 b2
  rw [e2]
  unfold divPV byV
  rw [if_neg (by decide), if_neg (by decide), sat_in b1 b2, show satV 1048576 = 1048576 by decide, if_neg (by decide), show pow2 (Int.toNat 0) = 1 from rfl, Int.mul_one, div_exact _ _ (by decide)]
  exact e1

/-- FxHalves -/
theorem half_mul {t : Int} (h0 : -1152921504606846976 ≤ t) (h1 : t ≤ 1152921504606846976) (n m : Nat) (hn : n + m = 30) (hs : satV (pow2 n) = pow2 n) :
    mulV t (pow2 n) 30 = rndV t m ∧ mulH t (pow2 n) 30 = false := by
  have e := rnd_shift t n m
  rw [hn] at e
  have b := rnd_in m h0 h1
  have hs2 : satH (pow2 n) = false := by
    have b2 := sat_bd (pow2 n)
    rw [hs] at b2
    exact satH_in b2.1 b2.2
  refine ⟨?_, ?_⟩
  · unfold mulV rndS
    rw [if_neg (by decide), if_neg (by decide), sat_in h0 h1, hs, show Int.toNat 30 = 30 from rfl, e, sat_in b.1 b.2]
  · unfold mulH rndH
    rw [sat_in h0 h1, hs, show Int.toNat 30 = 30 from rfl, e, satH_in b.1 b.2, satH_in h0 h1, hs2]
    decide
theorem half_one {t : Int} (h0 : -1152921504606846976 ≤ t) (h1 : t ≤ 1152921504606846976) (k : Int) (k0 : 0 ≤ k) (k1 : k ≤ 120) :
    mulV t 1 k = rndV t k.toNat ∧ mulH t 1 k = false := by
  have b := rnd_in k.toNat h0 h1
  have e1 : satV 1 = 1 := by decide
  refine ⟨?_, ?_⟩
  · unfold mulV rndS
    rw [if_neg (by omega), if_neg (by omega), sat_in h0 h1, e1, Int.mul_one, sat_in b.1 b.2]
  · unfold mulH rndH
    rw [sat_in h0 h1, e1, Int.mul_one, satH_in b.1 b.2, satH_in h0 h1, decide_eq_false (show ¬ k < 0 by omega), decide_eq_false (show ¬ k > 120 by omega)]
    decide
theorem half_self {t : Int} (h0 : -1152921504606846976 ≤ t) (h1 : t ≤ 1152921504606846976) (hne : t ≠ 0) : divPV t t 30 = 1073741824 ∧ divPH t t 30 = false := by
  have e := div_exact (pow2 30) t hne
  rw [Int.mul_comm, show pow2 30 = 1073741824 from rfl] at e
  have hf : (t == 0) = false := by simpa using hne
  refine ⟨?_, ?_⟩
  · unfold divPV byV
    rw [if_neg (by decide), if_neg (by decide), sat_in h0 h1, if_neg hne, show pow2 (Int.toNat 30) = 1073741824 from rfl, e]
    decide
  · unfold divPH byH
    rw [sat_in h0 h1, satH_in h0 h1, show pow2 (Int.toNat 30) = 1073741824 from rfl, e, hf]
    decide
theorem half_seven {t : Int} (h0 : -1152921504606846976 ≤ t) (h1 : t ≤ 1152921504606846976) : mulDivV t 7 7 = t ∧ mulDivH t 7 7 = false := by
  have e1 : satV 7 = 7 := by decide
  have e := div_exact t 7 (by decide)
  refine ⟨?_, ?_⟩
  · unfold mulDivV byV
    rw [sat_in h0 h1, e1, if_neg (by decide), e, sat_in h0 h1]
  · unfold mulDivH byH
    rw [sat_in h0 h1, e1, satH_in h0 h1, e, satH_in h0 h1]
    decide

/-- RootRises -/
theorem sqrt_mono {a b : Int} (h0 : 0 ≤ a) (h : a ≤ b) : sqrtV a ≤ sqrtV b := by
  have h1 := sat_mono h0
  have h2 := sat_mono h
  have h3 := sat_bd a
  have h4 := sat_bd b
  have h1' : 0 ≤ satV a := h1
  unfold sqrtV
  rw [if_neg (by omega), if_neg (by omega)]
  exact sat_mono (root_mono (by omega) (by omega) (by omega))
theorem recip_in {a : Int} (h0 : 1048576 ≤ a) (h1 : a ≤ 1099511627776) :
    divPV 1073741824 a 30 = quoR 1152921504606846976 a ∧ divPH 1073741824 a 30 = false ∧ 1048576 ≤ quoR 1152921504606846976 a ∧ quoR 1152921504606846976 a ≤ 1099511627776 ∧
    -a ≤ 2 * (quoR 1152921504606846976 a * a - 1152921504606846976) ∧ 2 * (quoR 1152921504606846976 a * a - 1152921504606846976) ≤ a := by
  have hb := quo_bd (a := 1152921504606846976) (b := a) (by decide) (by omega)
  have hd := div_pos (a := 1152921504606846976) (b := a) (by decide) (by omega)
  generalize quoR 1152921504606846976 a = q at *
  have q0 : 1048576 ≤ q := by
    rcases Int.lt_or_le q 1048576 with h | h
    · exfalso
      have : q * a ≤ 1048575 * a := Int.mul_le_mul_of_nonneg_right (by omega) (by omega)
      omega
    · exact h
  have q1 : q ≤ 1099511627776 := by
    rcases Int.lt_or_le 1099511627776 q with h | h
    · exfalso
      have : 1099511627777 * a ≤ q * a := Int.mul_le_mul_of_nonneg_right (by omega) (by omega)
      omega
    · exact h
  have e1 : satV 1073741824 = 1073741824 := by decide
  have e2 : satV a = a := sat_in (by omega) (by omega)
  have e3 : (1073741824 : Int) * pow2 (Int.toNat 30) = 1152921504606846976 := by decide
  have e4 : satV q = q := sat_in (by omega) (by omega)
  refine ⟨?_, ?_, q0, q1, hb⟩
  · unfold divPV byV
    rw [if_neg (by decide), if_neg (by decide), e1, e2, e3, if_neg (by omega), hd, e4]
  · unfold divPH byH
    have hne : (a == 0) = false := by simp; omega
    rw [e1, e2, e3, hd, satH_in (a := a) (by omega) (by omega), satH_in (a := q) (by omega) (by omega), hne]
    decide
theorem recip_recip {a : Int} (h0 : 1048576 ≤ a) (h1 : a ≤ 1099511627776) :
    -1048576 ≤ divPV 1073741824 (divPV 1073741824 a 30) 30 - a ∧ divPV 1073741824 (divPV 1073741824 a 30) 30 - a ≤ 1048576 ∧ divPH 1073741824 a 30 = false ∧ divPH 1073741824 (divPV 1073741824 a 30) 30 = false ∧
    -1073741824 ≤ divPV 1073741824 (divPV 1073741824 a 30) 30 ∧ divPV 1073741824 (divPV 1073741824 a 30) 30 ≤ 1099511627776 := by
  obtain ⟨e1, f1, a0, a1, b0, b1⟩ := recip_in h0 h1
  rw [e1]
  generalize quoR 1152921504606846976 a = R at *
  obtain ⟨e2, f2, c0, c1, d0, d1⟩ := recip_in a0 a1
  rw [e2]
  generalize quoR 1152921504606846976 R = T at *
  refine ⟨?_, ?_, f1, f2, by omega, c1⟩
  · rcases Int.lt_or_le (T - a) (-1048576) with h | h
    · exfalso
      have h5 : (T - a) * R ≤ (-1048577) * R := Int.mul_le_mul_of_nonneg_right (by omega) (by omega)
      have h6 : (T - a) * R = T * R - R * a := by grind
      omega
    · exact h
  · rcases Int.lt_or_le 1048576 (T - a) with h | h
    · exfalso
      have h5 : 1048577 * R ≤ (T - a) * R := Int.mul_le_mul_of_nonneg_right (by omega) (by omega)
      have h6 : (T - a) * R = T * R - R * a := by grind
      omega
    · exact h

/-- RootHolds -/
theorem sq_root {a : Int} (h0 : 0 ≤ a) (h1 : a ≤ 35184372088832) : -32768 ≤ sqrtV (mulV a a 30) - a ∧ sqrtV (mulV a a 30) - a ≤ 32768 := by
  have hs : satV a = a := sat_in (by omega) (by omega)
  have hq0 : 0 ≤ a * a := Int.mul_nonneg h0 h0
  have hq1 : a * a ≤ 1237940039285380274899124224 := by
    have : a * a ≤ 35184372088832 * 35184372088832 := Int.mul_le_mul h1 h1 h0 (by decide)
    omega
  have hb := rnd_bd (a * a) 30
  rw [show pow2 30 = 1073741824 from rfl] at hb
  have hm : mulV a a 30 = satV (rndV (a * a) 30) := by
    unfold mulV rndS
    rw [if_neg (by decide), if_neg (by decide), hs]; rfl
  rw [hm]
  generalize rndV (a * a) 30 = m at *
  have m0 : 0 ≤ m := by omega
  have m1 : m ≤ 1152921504606846976 := by omega
  rw [sat_in (by omega) m1]
  unfold sqrtV
  rw [sat_in (by omega) m1, if_neg (by omega)]
  have n0 : 0 ≤ m * 1073741824 := by omega
  have n1 : m * 1073741824 < 340282366920938463463374607431768211456 := by omega
  have r1 : rootW (m * 1073741824) ≤ a + 32768 := by
    refine root_le n0 n1 (by omega) ?_
    have e : (a + 32768) * (a + 32768) + (a + 32768) = a * a + 65537 * a + 1073774592 := by grind
    omega
  have r2 : a - 32768 ≤ rootW (m * 1073741824) := by
    refine root_ge n0 n1 ?_
    by_cases h : a ≤ 32768
    · exact .inl (by omega)
    · right
      have e : (a - 32768) * (a - 32768) - (a - 32768) = a * a - 65537 * a + 1073774592 := by grind
      omega
  have r0 := (rootW_spec n0 n1).1
  rw [sat_in (by omega) (by omega)]
  omega
theorem sqS2 (x y : Int) : sqS (List.take 64 [x, y]) = satV x * satV x + satV y * satV y := by
  show satV x * satV x + (satV y * satV y + 0) = _
  omega
theorem hyp_swap (x y : Int) : hypV [y, x] = hypV [x, y] := by
  unfold hypV
  rw [sqS2, sqS2, Int.add_comm]
theorem hyp_neg (x y : Int) : hypV [-x, y] = hypV [x, y] := by
  unfold hypV
  rw [sqS2, sqS2, sat_odd]
  congr 2
  have : -satV x * -satV x = satV x * satV x := by grind
  omega
theorem fabs_sat {x : Int} (h0 : -1152921504606846976 ≤ x) (h1 : x ≤ 1152921504606846976) : fabsV x = absV x := by
  unfold fabsV absV; (repeat' split) <;> omega
theorem sq_nn (a : Int) : 0 ≤ a * a := by
  have h : 0 ≤ a ∨ a ≤ 0 := by omega
  rcases h with h | h
  · exact Int.mul_nonneg h h
  · exact Int.mul_nonneg_of_nonpos_of_nonpos h h
theorem absV_sq (a : Int) : absV a * absV a = a * a := by rw [← absV_mul, absV_pos (sq_nn a)]
theorem hyp_bd {x y : Int} (x0 : -1152921504606846976 ≤ x) (x1 : x ≤ 1152921504606846976) (y0 : -1152921504606846976 ≤ y) (y1 : y ≤ 1152921504606846976) :
    fabsV x ≤ hypV [x, y] ∧ fabsV y ≤ hypV [x, y] ∧ hypV [x, y] ≤ faddV [fabsV x, fabsV y] := by
  rw [fabs_sat x0 x1, fabs_sat y0 y1]
  unfold hypV faddV
  rw [sqS2, sat_in x0 x1, sat_in y0 y1]
  have ax : 0 ≤ absV x ∧ absV x ≤ 1152921504606846976 := by unfold absV; split <;> omega
  have ay : 0 ≤ absV y ∧ absV y ≤ 1152921504606846976 := by unfold absV; split <;> omega
  have es : sumS [absV x, absV y] = absV x + absV y := by
    simp only [sumS]
    rw [sat_in (a := absV x) (by omega) ax.2, sat_in (a := absV y) (by omega) ay.2]
    omega
  rw [es, ← absV_sq x, ← absV_sq y]
  generalize absV x = u at *
  generalize absV y = v at *
  obtain ⟨u0, u1⟩ := ax
  obtain ⟨v0, v1⟩ := ay
  have hu : 0 ≤ u * u := Int.mul_nonneg u0 u0
  have hv : 0 ≤ v * v := Int.mul_nonneg v0 v0
  have hu2 : u * u ≤ 1152921504606846976 * 1152921504606846976 := Int.mul_le_mul u1 u1 u0 (by decide)
  have hv2 : v * v ≤ 1152921504606846976 * 1152921504606846976 := Int.mul_le_mul v1 v1 v0 (by decide)
  have huv : 0 ≤ u * v := Int.mul_nonneg u0 v0
  have a1 : u ≤ rootW (u * u + v * v) := root_ge (by omega) (by omega) (by omega)
  have a2 : v ≤ rootW (u * u + v * v) := root_ge (by omega) (by omega) (by omega)
  have a3 : rootW (u * u + v * v) ≤ u + v := by
    refine root_le (by omega) (by omega) (by omega) ?_
    have e : (u + v) * (u + v) = u * u + v * v + 2 * (u * v) := by grind
    omega
  refine ⟨?_, ?_, sat_mono a3⟩
  · have := sat_mono a1; rwa [sat_in (by omega) u1] at this
  · have := sat_mono a2; rwa [sat_in (by omega) v1] at this
end Go.Proofs.Ytjbikokffafdbaa

/- The law RootHolds: its runs, and why they answer true. -/
namespace Go.Proofs.Ytjbikokffafdbaa
open Go.Lr Go.RowKit
set_option linter.unusedVariables false
set_option linter.unusedSimpArgs false

theorem holdsR1 (a x y : Int) : (runF Try.prog S20 Zl 2000 14 [I a, I x, I y] [] 0 [none, some true, some true, some true, some true, some false, some false, some false, some false, some true, some true, some true, some true, some true, some true, some true, some true, some true, some true, some true, some true, some true, some true, some true, some true, some true, some true, some true, some true, some true, some true, some true, some true, some true, some true, some true, some true, some true, some true, some true, some true]).map (fun r => (r.1, r.2.2.2)) = some (LV.v (V1.one (At.bool (hypV [satV x, satV y] == hypV [wr IntKind.i64 (0 - satV x), satV y]))), [(hypV [satV x, satV y] == hypV [satV y, satV x], true), (hypV [satV x, satV y] == hypV [satV y, satV x], true), (hypV [satV x, satV y] == hypV [satV y, satV x], true), (hypV [satV x, satV y] == hypV [satV y, satV x], true), (hypV [satV x, satV y] == hypV [satV y, satV x], true), (hypV [satV x, satV y] == hypV [satV y, satV x], true), (hypV [satV x, satV y] == hypV [satV y, satV x], true), (hypV [satV x, satV y] == hypV [satV y, satV x], true), (hypV [satV x, satV y] == hypV [satV y, satV x], true), (decide (hypV [satV x, satV y] ≤ faddV [fabsV (satV x), fabsV (satV y)]), true), (decide (hypV [satV x, satV y] ≤ faddV [fabsV (satV x), fabsV (satV y)]), true), (decide (hypV [satV x, satV y] ≤ faddV [fabsV (satV x), fabsV (satV y)]), true), (decide (hypV [satV x, satV y] ≤ faddV [fabsV (satV x), fabsV (satV y)]), true), (decide (hypV [satV x, satV y] ≤ faddV [fabsV (satV x), fabsV (satV y)]), true), (decide (hypV [satV x, satV y] ≤ faddV [fabsV (satV x), fabsV (satV y)]), true), (decide (hypV [satV x, satV y] ≤ faddV [fabsV (satV x), fabsV (satV y)]), true), (decide (hypV [satV x, satV y] ≤ faddV [fabsV (satV x), fabsV (satV y)]), true), (decide (hypV [satV x, satV y] ≥ fabsV (satV y)), true), (decide (hypV [satV x, satV y] ≥ fabsV (satV y)), true), (decide (hypV [satV x, satV y] ≥ fabsV (satV y)), true), (decide ([fabsV (satV x), fabsV (satV y)].length < 1152921504606846976), true), (decide (hypV [satV x, satV y] ≥ fabsV (satV y)), true), (decide (hypV [satV x, satV y] ≥ fabsV (satV y)), true), (decide (hypV [satV x, satV y] ≥ fabsV (satV y)), true), (decide (hypV [satV x, satV y] ≥ fabsV (satV y)), true), (decide (hypV [satV x, satV y] ≥ fabsV (satV y)), true), (decide (hypV [satV x, satV y] ≥ fabsV (satV y)), true), (decide (hypV [satV x, satV y] ≥ fabsV (satV y)), true), (decide (hypV [satV x, satV y] ≥ fabsV (satV x)), true), (decide (hypV [satV x, satV y] ≥ fabsV (satV x)), true), (decide (hypV [satV x, satV y] ≥ fabsV (satV x)), true), (decide (hypV [satV x, satV y] ≥ fabsV (satV x)), true), (decide (hypV [satV x, satV y] ≥ fabsV (satV x)), true), (decide (wr IntKind.i64 (sqrtV (mulV a a 30) - a) > 32768), false), (decide (wr IntKind.i64 (sqrtV (mulV a a 30) - a) < -32768), false), (decide (wr IntKind.i64 (sqrtV (mulV a a 30) - a) < -32768), false), (decide (wr IntKind.i64 (sqrtV (mulV a a 30) - a) < -32768), false), (decide (a ≤ 35184372088832), true), (decide (a ≥ 0), true), (decide (a ≥ 0), true), (decide (a ≥ 0), true)]) := by kernel_rfl
theorem holdsR2 (a x y : Int) : (runF Try.prog S20 Zl 2000 14 [I a, I x, I y] [] 0 [none, some true, some true, some true, some false, some true, some true, some true, some true, some true, some true, some true, some true, some true, some true, some true, some true, some true, some true, some true, some true, some true, some true, some true, some true, some true, some true, some true, some true, some true, some true, some true, some true, some true, some true, some true, some true]).map (fun r => (r.1, r.2.2.2)) = some (LV.v (V1.one (At.bool (hypV [satV x, satV y] == hypV [wr IntKind.i64 (0 - satV x), satV y]))), [(hypV [satV x, satV y] == hypV [satV y, satV x], true), (hypV [satV x, satV y] == hypV [satV y, satV x], true), (hypV [satV x, satV y] == hypV [satV y, satV x], true), (hypV [satV x, satV y] == hypV [satV y, satV x], true), (hypV [satV x, satV y] == hypV [satV y, satV x], true), (hypV [satV x, satV y] == hypV [satV y, satV x], true), (hypV [satV x, satV y] == hypV [satV y, satV x], true), (hypV [satV x, satV y] == hypV [satV y, satV x], true), (hypV [satV x, satV y] == hypV [satV y, satV x], true), (decide (hypV [satV x, satV y] ≤ faddV [fabsV (satV x), fabsV (satV y)]), true), (decide (hypV [satV x, satV y] ≤ faddV [fabsV (satV x), fabsV (satV y)]), true), (decide (hypV [satV x, satV y] ≤ faddV [fabsV (satV x), fabsV (satV y)]), true), (decide (hypV [satV x, satV y] ≤ faddV [fabsV (satV x), fabsV (satV y)]), true), (decide (hypV [satV x, satV y] ≤ faddV [fabsV (satV x), fabsV (satV y)]), true), (decide (hypV [satV x, satV y] ≤ faddV [fabsV (satV x), fabsV (satV y)]), true), (decide (hypV [satV x, satV y] ≤ faddV [fabsV (satV x), fabsV (satV y)]), true), (decide (hypV [satV x, satV y] ≤ faddV [fabsV (satV x), fabsV (satV y)]), true), (decide (hypV [satV x, satV y] ≥ fabsV (satV y)), true), (decide (hypV [satV x, satV y] ≥ fabsV (satV y)), true), (decide (hypV [satV x, satV y] ≥ fabsV (satV y)), true), (decide ([fabsV (satV x), fabsV (satV y)].length < 1152921504606846976), true), (decide (hypV [satV x, satV y] ≥ fabsV (satV y)), true), (decide (hypV [satV x, satV y] ≥ fabsV (satV y)), true), (decide (hypV [satV x, satV y] ≥ fabsV (satV y)), true), (decide (hypV [satV x, satV y] ≥ fabsV (satV y)), true), (decide (hypV [satV x, satV y] ≥ fabsV (satV y)), true), (decide (hypV [satV x, satV y] ≥ fabsV (satV y)), true), (decide (hypV [satV x, satV y] ≥ fabsV (satV y)), true), (decide (hypV [satV x, satV y] ≥ fabsV (satV x)), true), (decide (hypV [satV x, satV y] ≥ fabsV (satV x)), true), (decide (hypV [satV x, satV y] ≥ fabsV (satV x)), true), (decide (hypV [satV x, satV y] ≥ fabsV (satV x)), true), (decide (hypV [satV x, satV y] ≥ fabsV (satV x)), true), (decide (a ≤ 35184372088832), false), (decide (a ≥ 0), true), (decide (a ≥ 0), true), (decide (a ≥ 0), true)]) := by kernel_rfl
theorem holdsR3 (a x y : Int) : (runF Try.prog S20 Zl 2000 14 [I a, I x, I y] [] 0 [none, some false, some false, some false, none, some true, some true, some true, some true, some true, some true, some true, some true, some true, some true, some true, some true, some true, some true, some true, some true, some true, some true, some true, some true, some true, some true, some true, some true, some true, some true, some true, some true, some true, some true, some true, some true]).map (fun r => (r.1, r.2.2.2)) = some (LV.v (V1.one (At.bool (hypV [satV x, satV y] == hypV [wr IntKind.i64 (0 - satV x), satV y]))), [(hypV [satV x, satV y] == hypV [satV y, satV x], true), (hypV [satV x, satV y] == hypV [satV y, satV x], true), (hypV [satV x, satV y] == hypV [satV y, satV x], true), (hypV [satV x, satV y] == hypV [satV y, satV x], true), (hypV [satV x, satV y] == hypV [satV y, satV x], true), (hypV [satV x, satV y] == hypV [satV y, satV x], true), (hypV [satV x, satV y] == hypV [satV y, satV x], true), (hypV [satV x, satV y] == hypV [satV y, satV x], true), (hypV [satV x, satV y] == hypV [satV y, satV x], true), (decide (hypV [satV x, satV y] ≤ faddV [fabsV (satV x), fabsV (satV y)]), true), (decide (hypV [satV x, satV y] ≤ faddV [fabsV (satV x), fabsV (satV y)]), true), (decide (hypV [satV x, satV y] ≤ faddV [fabsV (satV x), fabsV (satV y)]), true), (decide (hypV [satV x, satV y] ≤ faddV [fabsV (satV x), fabsV (satV y)]), true), (decide (hypV [satV x, satV y] ≤ faddV [fabsV (satV x), fabsV (satV y)]), true), (decide (hypV [satV x, satV y] ≤ faddV [fabsV (satV x), fabsV (satV y)]), true), (decide (hypV [satV x, satV y] ≤ faddV [fabsV (satV x), fabsV (satV y)]), true), (decide (hypV [satV x, satV y] ≤ faddV [fabsV (satV x), fabsV (satV y)]), true), (decide (hypV [satV x, satV y] ≥ fabsV (satV y)), true), (decide (hypV [satV x, satV y] ≥ fabsV (satV y)), true), (decide (hypV [satV x, satV y] ≥ fabsV (satV y)), true), (decide ([fabsV (satV x), fabsV (satV y)].length < 1152921504606846976), true), (decide (hypV [satV x, satV y] ≥ fabsV (satV y)), true), (decide (hypV [satV x, satV y] ≥ fabsV (satV y)), true), (decide (hypV [satV x, satV y] ≥ fabsV (satV y)), true), (decide (hypV [satV x, satV y] ≥ fabsV (satV y)), true), (decide (hypV [satV x, satV y] ≥ fabsV (satV y)), true), (decide (hypV [satV x, satV y] ≥ fabsV (satV y)), true), (decide (hypV [satV x, satV y] ≥ fabsV (satV y)), true), (decide (hypV [satV x, satV y] ≥ fabsV (satV x)), true), (decide (hypV [satV x, satV y] ≥ fabsV (satV x)), true), (decide (hypV [satV x, satV y] ≥ fabsV (satV x)), true), (decide (hypV [satV x, satV y] ≥ fabsV (satV x)), true), (decide (hypV [satV x, satV y] ≥ fabsV (satV x)), true), (decide (a ≥ 0), false), (decide (a ≥ 0), false), (decide (a ≥ 0), false)]) := by kernel_rfl
theorem holds (a x y : Int) (f0 : decide (a ≥ 0) = true → decide (a ≤ 35184372088832) = true → decide (wr IntKind.i64 (sqrtV (mulV a a 30) - a) < -32768) = false) (f1 : decide (a ≥ 0) = true → decide (a ≤ 35184372088832) = true → decide (wr IntKind.i64 (sqrtV (mulV a a 30) - a) > 32768) = false) (f2 : decide (hypV [satV x, satV y] ≥ fabsV (satV x)) = true) (f3 : decide (hypV [satV x, satV y] ≥ fabsV (satV y)) = true) (f4 : decide (hypV [satV x, satV y] ≤ faddV [fabsV (satV x), fabsV (satV y)]) = true) (f5 : (hypV [satV x, satV y] == hypV [satV y, satV x]) = true) (f6 : (hypV [satV x, satV y] == hypV [wr IntKind.i64 (0 - satV x), satV y]) = true) (f7 : decide ([fabsV (satV x), fabsV (satV y)].length < 1152921504606846976) = true) (w : World) :
    Calls Try.prog 14 ([I a, I x, I y].map (LV.den E0)).toArray w fun e w' => e = .returned (.bool true) ∧ Below w.heap.size w w' := by
  rcases bool_cases (decide (a ≥ 0)) with h0 | h0
  · rcases bool_cases (decide (a ≤ 35184372088832)) with h1 | h1
    · refine law_true sound20 (holdsR1 a x y) ((f6)) (ae_cons ((f5)) (ae_cons ((f5)) (ae_cons ((f5)) (ae_cons ((f5)) (ae_cons ((f5)) (ae_cons ((f5)) (ae_cons ((f5)) (ae_cons ((f5)) (ae_cons ((f5)) (ae_cons ((f4)) (ae_cons ((f4)) (ae_cons ((f4)) (ae_cons ((f4)) (ae_cons ((f4)) (ae_cons ((f4)) (ae_cons ((f4)) (ae_cons ((f4)) (ae_cons ((f3)) (ae_cons ((f3)) (ae_cons ((f3)) (ae_cons ((f7)) (ae_cons ((f3)) (ae_cons ((f3)) (ae_cons ((f3)) (ae_cons ((f3)) (ae_cons ((f3)) (ae_cons ((f3)) (ae_cons ((f3)) (ae_cons ((f2)) (ae_cons ((f2)) (ae_cons ((f2)) (ae_cons ((f2)) (ae_cons ((f2)) (ae_cons ((f1 h0 h1)) (ae_cons ((f0 h0 h1)) (ae_cons ((f0 h0 h1)) (ae_cons ((f0 h0 h1)) (ae_cons (h1) (ae_cons (h0) (ae_cons (h0) (ae_cons (h0) (ae_nil)))))))))))))))))))))))))))))))))))))))))) rfl w
    · refine law_true sound20 (holdsR2 a x y) ((f6)) (ae_cons ((f5)) (ae_cons ((f5)) (ae_cons ((f5)) (ae_cons ((f5)) (ae_cons ((f5)) (ae_cons ((f5)) (ae_cons ((f5)) (ae_cons ((f5)) (ae_cons ((f5)) (ae_cons ((f4)) (ae_cons ((f4)) (ae_cons ((f4)) (ae_cons ((f4)) (ae_cons ((f4)) (ae_cons ((f4)) (ae_cons ((f4)) (ae_cons ((f4)) (ae_cons ((f3)) (ae_cons ((f3)) (ae_cons ((f3)) (ae_cons ((f7)) (ae_cons ((f3)) (ae_cons ((f3)) (ae_cons ((f3)) (ae_cons ((f3)) (ae_cons ((f3)) (ae_cons ((f3)) (ae_cons ((f3)) (ae_cons ((f2)) (ae_cons ((f2)) (ae_cons ((f2)) (ae_cons ((f2)) (ae_cons ((f2)) (ae_cons (h1) (ae_cons (h0) (ae_cons (h0) (ae_cons (h0) (ae_nil)))))))))))))))))))))))))))))))))))))) rfl w
  · refine law_true sound20 (holdsR3 a x y) ((f6)) (ae_cons ((f5)) (ae_cons ((f5)) (ae_cons ((f5)) (ae_cons ((f5)) (ae_cons ((f5)) (ae_cons ((f5)) (ae_cons ((f5)) (ae_cons ((f5)) (ae_cons ((f5)) (ae_cons ((f4)) (ae_cons ((f4)) (ae_cons ((f4)) (ae_cons ((f4)) (ae_cons ((f4)) (ae_cons ((f4)) (ae_cons ((f4)) (ae_cons ((f4)) (ae_cons ((f3)) (ae_cons ((f3)) (ae_cons ((f3)) (ae_cons ((f7)) (ae_cons ((f3)) (ae_cons ((f3)) (ae_cons ((f3)) (ae_cons ((f3)) (ae_cons ((f3)) (ae_cons ((f3)) (ae_cons ((f3)) (ae_cons ((f2)) (ae_cons ((f2)) (ae_cons ((f2)) (ae_cons ((f2)) (ae_cons ((f2)) (ae_cons (h0) (ae_cons (h0) (ae_cons (h0) (ae_nil))))))))))))))))))))))))))))))))))))) rfl w

theorem lawRootHolds (a x y : Int) (w : World) :
    Calls Try.prog 14 #[.int .i64 a, .int .i64 x, .int .i64 y] w fun e w' => e = .returned (.bool true) ∧ Below w.heap.size w w' := by
  have bx := sat_bd x
  have by' := sat_bd y
  have hb := hyp_bd bx.1 bx.2 by'.1 by'.2
  have hs : decide (a ≥ 0) = true → decide (a ≤ 35184372088832) = true → wr IntKind.i64 (sqrtV (mulV a a 30) - a) = sqrtV (mulV a a 30) - a ∧ -32768 ≤ sqrtV (mulV a a 30) - a ∧ sqrtV (mulV a a 30) - a ≤ 32768 := by
    intro h0 h1
    simp only [decide_eq_true_eq] at h0 h1
    have h := sq_root h0 h1
    exact ⟨w64_in (by omega) (by omega), h⟩
  refine holds a x y ?_ ?_ ?_ ?_ ?_ ?_ ?_ ?_ w
  · intro h0 h1
    obtain ⟨e, b0, b1⟩ := hs h0 h1
    rw [e]; exact decide_eq_false (by omega)
  · intro h0 h1
    obtain ⟨e, b0, b1⟩ := hs h0 h1
    rw [e]; exact decide_eq_false (by omega)
  · exact decide_eq_true hb.1
  · exact decide_eq_true hb.2.1
  · exact decide_eq_true hb.2.2
  · rw [hyp_swap]; simp
  · have e : wr IntKind.i64 (0 - satV x) = -satV x := by
      show w64 _ = _
      rw [w64_in (by omega) (by omega)]; omega
    rw [e, hyp_neg]; simp
  · rfl
end Go.Proofs.Ytjbikokffafdbaa
