/- Joined texts. What each part proves stands ahead of it; no condition. -/
import Derived.Test.YtaebmggjhjobnaaLrM5
import Derived.Test.YtaebmggjhjobnaaLrM4
import Derived.WalkKit
import Derived.ProofKit
import Derived.OpenShut
import Derived.WideKeyArr2
import Derived.Test.YtaebmggjhjobnaaLrM1

/- Units of numbers that nearly have length one; a vector's length; the exponential in plain numbers. -/
namespace Go.Proofs.Ytaebmggjhjobnaa
open Go.Lr Go.Tg
set_option linter.unusedVariables false
set_option linter.unusedSimpArgs false

theorem inS_nb {a k : Int} (h : nb a k) (hk : k ≤ 1152921504606846976) : inS a := by unfold nb at h; unfold inS; omega
theorem satH_S {a : Int} (h : inS a) : satH a = false := satH_in h.1 h.2
theorem satV_S {a : Int} (h : inS a) : satV a = a := sat_in h.1 h.2
/-- A Unit's flag stays. -/
theorem unit_fl {a b c d : Int} {h : Bool} (ha : nb a 8589934592) (hb : nb b 8589934592) (hc : nb c 8589934592) (hd : nb d 8589934592) : uFl h a b c d = h := by
  have ia := inS_nb ha (by omega)
  have ib := inS_nb hb (by omega)
  have ic := inS_nb hc (by omega)
  have id := inS_nb hd (by omega)
  unfold uFl uS
  rw [satH_S ia, satH_S ib, satH_S ic, satH_S id]
  simp only [Bool.or_false]
  rcases bool_cases (uZ a b c d) with z | z
  · rw [cond_t z]
  · rw [cond_f z]
    have hp := uZ_pos z
    rw [satV_S ia, satV_S ib, satV_S ic, satV_S id] at *
    unfold uH uM
    have e4 : n4 a b c d ≤ 295147905179352825856 := by
      have a2 := (ha.mul ha).2
      have b2 := (hb.mul hb).2
      have c2 := (hc.mul hc).2
      have d2 := (hd.mul hd).2
      unfold n4; omega
    obtain ⟨m0, mA, mB, mC, mD, m1, m2⟩ := hyp4 ia ib ic id hp
    obtain ⟨-, m3⟩ := m2 (by omega)
    rw [m3]
    have p1 := pass1 m0.1 m0.2 mA mB mC mD m1
    obtain ⟨-, a2, a3, -⟩ := dsign mA.1 mA.2 m0.1 m0.2
    obtain ⟨-, b2, b3, -⟩ := dsign mB.1 mB.2 m0.1 m0.2
    obtain ⟨-, c2, c3, -⟩ := dsign mC.1 mC.2 m0.1 m0.2
    obtain ⟨-, d2, d3, -⟩ := dsign mD.1 mD.2 m0.1 m0.2
    generalize hypV [a, b, c, d] = n at *
    obtain ⟨k0, kA, kB, kC, kD, k1, k2⟩ := hyp4 (inS_bd a2) (inS_bd b2) (inS_bd c2) (inS_bd d2) (by omega)
    have le := n4_le a2 b2 c2 d2
    obtain ⟨-, k3⟩ := k2 (by omega)
    rw [a3, b3, c3, d3, k3]
    obtain ⟨-, -, a4, -⟩ := dsign kA.1 kA.2 k0.1 k0.2
    obtain ⟨-, -, b4, -⟩ := dsign kB.1 kB.2 k0.1 k0.2
    obtain ⟨-, -, c4, -⟩ := dsign kC.1 kC.2 k0.1 k0.2
    obtain ⟨-, -, d4, -⟩ := dsign kD.1 kD.2 k0.1 k0.2
    rw [a4, b4, c4, d4]
    simp
/-- One pass over a number, by a length near one. -/
theorem near_k {a n k : Int} (hk0 : 0 ≤ k) (hk : k ≤ 1000000) (h0 : a ≤ n ∧ -a ≤ n) (hn : 1073741824 - k ≤ n) (hn1 : n ≤ 1073741824 + k) : nb (divPV a n 30 - a) (k + 1) := by
  have h := (dpass h0.1 h0.2 (by omega) (by omega)).1
  generalize divPV a n 30 = t at *
  have e : t * n - a * 1073741824 = (t - a) * n + a * (n - 1073741824) := by grind
  have p := (show nb a n from ⟨by omega, h0.1⟩).mul (show nb (n - 1073741824) k from ⟨by omega, by omega⟩)
  rw [e] at h
  unfold nb at p ⊢
  generalize a * (n - 1073741824) = w at *
  generalize t - a = x at *
  have en : n * k = k * n := Int.mul_comm ..
  rw [en] at p
  constructor
  · rcases Int.lt_or_le x (-(k + 1)) with g | g
    · exfalso
      have : x * n ≤ (-(k + 1) - 1) * n := Int.mul_le_mul_of_nonneg_right (by omega) (by omega)
      have e2 : (-(k + 1) - 1) * n = -(k * n) - 2 * n := by grind
      omega
    · exact g
  · rcases Int.lt_or_le (k + 1) x with g | g
    · exfalso
      have : (k + 2) * n ≤ x * n := Int.mul_le_mul_of_nonneg_right (by omega) (by omega)
      have e2 : (k + 2) * n = k * n + 2 * n := by grind
      omega
    · exact g
/-- A Unit of what nearly has length one is near it. -/
theorem unit_near {a b c d k : Int} (ha : nb a 2147483648) (hb : nb b 2147483648) (hc : nb c 2147483648) (hd : nb d 2147483648) (hk0 : 1 ≤ k) (hk : k ≤ 50000) (hn : nb (n4 a b c d - 1152921504606846976) (k * 2147483648)) :
    nb (uV0 a b c d - a) (k + 5) ∧ nb (uV1 a b c d - b) (k + 5) ∧ nb (uV2 a b c d - c) (k + 5) ∧ nb (uV3 a b c d - d) (k + 5) := by
  have ia := inS_nb ha (by omega)
  have ib := inS_nb hb (by omega)
  have ic := inS_nb hc (by omega)
  have id := inS_nb hd (by omega)
  have hN : 1 ≤ n4 a b c d := by unfold nb at hn; omega
  have hz : uZ a b c d = false := by
    rcases bool_cases (uZ a b c d) with g | g
    · exfalso
      unfold uZ at g
      rw [satV_S ia, satV_S ib, satV_S ic, satV_S id] at g
      simp only [Bool.and_eq_true, Bool.and_true, beq_iff_eq] at g
      obtain ⟨e0, e1, e2, e3⟩ := g
      subst e0 e1 e2 e3
      unfold n4 at hN; omega
    · exact g
  unfold uV0 uV1 uV2 uV3
  rw [cond_f hz, cond_f hz, cond_f hz, cond_f hz, satV_S ia, satV_S ib, satV_S ic, satV_S id]
  unfold uE
  obtain ⟨m0, mA, mB, mC, mD, m1, m2⟩ := hyp4 ia ib ic id hN
  obtain ⟨m3, -⟩ := m2 (by unfold nb at hn; omega)
  have hn0 : 1073741824 - (k + 2) ≤ hypV [a, b, c, d] := by
    generalize hypV [a, b, c, d] = n at *
    rcases Int.lt_or_le n (1073741824 - (k + 2)) with g | g
    · exfalso
      have : n * n ≤ (1073741824 - (k + 3)) * (1073741824 - (k + 3)) := Int.mul_le_mul (by omega) (by omega) (by omega) (by omega)
      have e : (1073741824 - (k + 3)) * (1073741824 - (k + 3)) = 1152921504606846976 - 2147483648 * (k + 3) + (k + 3) * (k + 3) := by grind
      have q : (k + 3) * (k + 3) ≤ 50003 * (k + 3) := Int.mul_le_mul_of_nonneg_right (by omega) (by omega)
      unfold nb at hn; omega
    · exact g
  have hn1 : hypV [a, b, c, d] ≤ 1073741824 + (k + 2) := by
    generalize hypV [a, b, c, d] = n at *
    rcases Int.lt_or_le (1073741824 + (k + 2)) n with g | g
    · exfalso
      have : (1073741824 + (k + 3)) * (1073741824 + (k + 2)) ≤ n * (n - 1) := Int.mul_le_mul (by omega) (by omega) (by omega) (by omega)
      have e : (1073741824 + (k + 3)) * (1073741824 + (k + 2)) = 1152921504606846976 + 1073741824 * (k + 2) + 1073741824 * (k + 3) + (k + 3) * (k + 2) := by grind
      have e2 : n * (n - 1) = n * n - n := by grind
      have q : 0 ≤ (k + 3) * (k + 2) := Int.mul_nonneg (by omega) (by omega)
      unfold nb at hn; omega
    · exact g
  have hs : UnitQ (divPV a (hypV [a, b, c, d]) 30) (divPV b (hypV [a, b, c, d]) 30) (divPV c (hypV [a, b, c, d]) 30) (divPV d (hypV [a, b, c, d]) 30) :=
    ⟨(dpass mA.1 mA.2 m0.1 m0.2).2.1, (dpass mB.1 mB.2 m0.1 m0.2).2.1, (dpass mC.1 mC.2 m0.1 m0.2).2.1, (dpass mD.1 mD.2 m0.1 m0.2).2.1, pass2 (by omega) m0.2 mA mB mC mD m1 m3⟩
  have hl := unit_len hs
  have hp := (unit_pass hs).2
  have a1 := near_k (k := k + 2) (by omega) (by omega) mA hn0 hn1
  have b1 := near_k (k := k + 2) (by omega) (by omega) mB hn0 hn1
  have c1 := near_k (k := k + 2) (by omega) (by omega) mC hn0 hn1
  have d1 := near_k (k := k + 2) (by omega) (by omega) mD hn0 hn1
  unfold nb at *
  omega
/-- A vector's length. -/
theorem hyp3 {a b c : Int} (ha : nb a 1099511627776) (hb : nb b 1099511627776) (hc : nb c 1099511627776) :
    0 ≤ exN a b c ∧ exN a b c ≤ 2199023255552 ∧ (a ≤ exN a b c ∧ -a ≤ exN a b c) ∧ (b ≤ exN a b c ∧ -b ≤ exN a b c) ∧ (c ≤ exN a b c ∧ -c ≤ exN a b c) ∧ a * a + (b * b + c * c) ≤ exN a b c * exN a b c + exN a b c ∧
    (exN a b c = 0 ∨ exN a b c * exN a b c - exN a b c < a * a + (b * b + c * c)) ∧ hypH [satV a, satV b, satV c] = false := by
  have ia := inS_nb ha (by omega)
  have ib := inS_nb hb (by omega)
  have ic := inS_nb hc (by omega)
  obtain ⟨s0, s1, s2, s3, s4⟩ := exN_side a b c
  rw [satV_S ia] at s0
  rw [satV_S ib] at s1
  rw [satV_S ic] at s2
  have q0 := sqnn0 a
  have q1 := sqnn0 b
  have q2 := sqnn0 c
  have a2 := (ha.mul ha).2
  have b2 := (hb.mul hb).2
  have c2 := (hc.mul hc).2
  have hN : a * a + (b * b + c * c) < 340282366920938463463374607431768211456 := by omega
  obtain ⟨r0, r1, r2⟩ := rootW_spec (N := a * a + (b * b + c * c)) (by omega) hN
  have r3 : rootW (a * a + (b * b + c * c)) ≤ 2199023255552 := root_le (by omega) hN (by omega) (by omega)
  have ev : exN a b c = rootW (a * a + (b * b + c * c)) := by
    unfold exN hypV
    rw [sqS3, satV_S ia, satV_S ib, satV_S ic, satV_S ia, satV_S ib, satV_S ic, sat_in (by omega) (by omega)]
  have ef : hypH [satV a, satV b, satV c] = false := by
    unfold hypH
    rw [sqS3, satV_S ia, satV_S ib, satV_S ic, satV_S ia, satV_S ib, satV_S ic]
    show ((satH a || (satH b || (satH c || false))) || _) = _
    rw [satH_S ia, satH_S ib, satH_S ic, satH_in (by omega) (by omega)]
    rfl
  rw [ev] at s0 s1 s2
  rw [ev]
  exact ⟨r0, r3, s0, s1, s2, r1, r2, ef⟩
/-- The heading, in plain numbers: a level rotation's. -/
theorem yaw_of {h f0 f3 : Int} (hu : UnitQ f0 0 0 f3) (hc : nb (f3 * CG h - f0 * SG h) 5368709120) : nb (wrapV (atanV (rm3 f0 0 0 f3) (rm0 f0 0 0 f3) - 2 * h)) 330 ∧ nb (rm3 f0 0 0 f3) 4294967296 ∧ nb (rm0 f0 0 0 f3) 4294967296 := by
  have z : one 0 := by unfold one; omega
  obtain ⟨e0, -, -, e3, -⟩ := rm_eq hu.ha z z hu.hd
  have hn := hu.hn
  unfold nearU n4 at hn
  have m0 : mx0 f0 0 0 f3 = f0 * f0 - f3 * f3 := by unfold mx0; omega
  have m3 : mx3 f0 0 0 f3 = 2 * (f0 * f3) := by unfold mx3; omega
  rw [e0, e3, m0, m3]
  have r3 := rn30 (2 * (f0 * f3))
  have r0 := rn30 (f0 * f0 - f3 * f3)
  have b0 := (show nb f0 1073741824 from hu.ha)
  have b3 := (show nb f3 1073741824 from hu.hd)
  have p1 := b0.mul b3
  have p2 := b0.mul b0
  have p3 := b3.mul b3
  refine ⟨yaw_core b0 b3 (by unfold nb; omega) hc r3 r0, ?_, ?_⟩
  · unfold nb at *; omega
  · unfold nb at *; omega
theorem fyA_ok {a : Int} (ha : nb a 3221225472) : wrapV a = a ∧ nb (2 * fyA a - a) 1 ∧ mulH (wrapV a) 536870912 30 = false := by
  have hw : wrapV a = a := by unfold nb at ha; exact wrap_unique (k := 0) (by omega) (by omega) (by omega)
  have hm := mul30 (a := a) (b := 536870912) (ha.le (by omega)) (by unfold nb; omega)
  refine ⟨hw, ?_, ?_⟩
  · unfold fyA; rw [hw]
    unfold nb at *; omega
  · rw [hw]; exact mulH30 (ha.le (by omega)) (by unfold nb; omega)
/-- The heading of a turn about the upright axis. -/
theorem yaws1 {a : Int} (ha : nb a 3221225472) : nb (atanV (rm3 (fy0 a) 0 0 (fy3 a)) (rm0 (fy0 a) 0 0 (fy3 a)) - a) 340 ∧ nb (rm3 (fy0 a) 0 0 (fy3 a)) 4294967296 ∧ nb (rm0 (fy0 a) 0 0 (fy3 a)) 4294967296 ∧ UnitQ (fy0 a) 0 0 (fy3 a) ∧ (∀ h, fyFl h a = h) := by
  obtain ⟨hw, h2, hf⟩ := fyA_ok ha
  obtain ⟨hu, -, -⟩ := fy_ok a
  have hA : nb (fyA a) 1152921504606846976 := by unfold nb at *; omega
  have hcd : uV0 (cosV (fyA a)) 0 0 (sinV (fyA a)) = fy0 a ∧ uV3 (cosV (fyA a)) 0 0 (sinV (fyA a)) = fy3 a := ⟨rfl, rfl⟩
  rw [cosV_eq, sinV_eq hA] at hcd
  have oc := on_circle (fyA a)
  have cb := CG_bd (fyA a)
  have sb := SG_bd (fyA a)
  obtain ⟨d1, d2, d3⟩ := unit_dir (a := CG (fyA a)) (d := SG (fyA a)) (cb.le (by omega)) (sb.le (by omega)) (by unfold nb at oc; omega) (by unfold nb at oc; omega)
  rw [hcd.1, hcd.2] at d1
  obtain ⟨y1, y2, y3⟩ := yaw_of (h := fyA a) hu (d1.le (by omega))
  refine ⟨?_, y2, y3, hu, ?_⟩
  · have hb : nb (atanV (rm3 (fy0 a) 0 0 (fy3 a)) (rm0 (fy0 a) 0 0 (fy3 a))) 3373259426 := by
      by_cases hz : rm3 (fy0 a) 0 0 (fy3 a) ≠ 0 ∨ rm0 (fy0 a) 0 0 (fy3 a) ≠ 0
      · exact (atan_sg (y2.le (by omega)) (y3.le (by omega)) hz).1
      · have e1 : rm3 (fy0 a) 0 0 (fy3 a) = 0 := by omega
        have e2 : rm0 (fy0 a) 0 0 (fy3 a) = 0 := by omega
        rw [e1, e2, show atanV 0 0 = 0 by decide +kernel]; unfold nb; omega
    obtain ⟨w0, w1, k, hk⟩ := wrap_spec (atanV (rm3 (fy0 a) 0 0 (fy3 a)) (rm0 (fy0 a) 0 0 (fy3 a)) - 2 * fyA a)
    generalize wrapV (atanV (rm3 (fy0 a) 0 0 (fy3 a)) (rm0 (fy0 a) 0 0 (fy3 a)) - 2 * fyA a) = w at *
    generalize atanV (rm3 (fy0 a) 0 0 (fy3 a)) (rm0 (fy0 a) 0 0 (fy3 a)) = r at *
    unfold nb at *
    omega
  · intro h
    unfold fyFl
    rw [unit_fl, sinH_ok hA, cosH_ok, hf, Bool.or_false]
    · rw [cosV_eq]; exact cb.le (by omega)
    · unfold nb; omega
    · unfold nb; omega
    · rw [sinV_eq hA]; exact sb.le (by omega)
/-- Divided by what is at least half of it. -/
theorem ddiv2 {v u : Int} (h0 : v ≤ 2 * u) (h1 : -v ≤ 2 * u) (hu : 1 ≤ u) (hu1 : u ≤ 4398046511104) : nb (2 * (divPV v u 30 * u - v * 1073741824)) u ∧ nb (divPV v u 30) 2147483648 ∧ divPH v u 30 = false := by
  have key : ∀ w : Int, 0 ≤ w → nb (2 * (divV (w * 1073741824) u * u - w * 1073741824)) u := by
    intro w w0
    rw [div_pos (a := w * 1073741824) (b := u) (by omega) (by omega)]
    exact quo_bd (by omega) (by omega)
  have odd : ∀ w : Int, divV (-w) u = -divV w u := by
    intro w
    unfold divV
    rw [absV_negate]
    have hu' : decide (u < 0) = false := by simp; omega
    rw [hu']
    by_cases g0 : w = 0
    · subst g0
      have : quoR (absV 0) (absV u) = 0 := by
        rw [show absV 0 = 0 from rfl]
        exact quoR_zero (by unfold absV; split <;> omega)
      rw [this]; rfl
    · by_cases g1 : w < 0
      · have e1 : decide (w < 0) = true := by simpa using g1
        have e2 : decide (-w < 0) = false := by simp; omega
        rw [e1, e2]; unfold sgn; simp
      · have e1 : decide (w < 0) = false := by simp; omega
        have e2 : decide (-w < 0) = true := by simp; omega
        rw [e1, e2]; unfold sgn; simp
  have hd : nb (2 * (divV (v * 1073741824) u * u - v * 1073741824)) u := by
    by_cases h : 0 ≤ v
    · exact key v h
    · have k := key (-v) (by omega)
      rw [show -v * 1073741824 = -(v * 1073741824) by omega, odd, Int.neg_mul] at k
      unfold nb at *; omega
  have hb : nb (divV (v * 1073741824) u) 2147483648 := by
    unfold nb at hd ⊢
    generalize divV (v * 1073741824) u = t at *
    constructor
    · rcases Int.lt_or_le t (-2147483648) with h | h
      · exfalso
        have : t * u ≤ -2147483649 * u := Int.mul_le_mul_of_nonneg_right (by omega) (by omega)
        omega
      · exact h
    · rcases Int.lt_or_le 2147483648 t with h | h
      · exfalso
        have : 2147483649 * u ≤ t * u := Int.mul_le_mul_of_nonneg_right (by omega) (by omega)
        omega
      · exact h
  have e : pow2 (Int.toNat 30) = 1073741824 := rfl
  have ev : divPV v u 30 = divV (v * 1073741824) u := by
    unfold nb at hb
    unfold divPV byV
    rw [if_neg (by decide), if_neg (by decide), e, sat_in (a := v) (by omega) (by omega), sat_in (a := u) (by omega) (by omega), if_neg (by omega), sat_in (by omega) (by omega)]
  rw [ev]
  exact ⟨hd, hb, divH30 (by unfold nb; omega) (by unfold nb; omega) (hb.le (by omega)) (by omega)⟩
/-- A sine is at most twice its angle. -/
theorem SG_two {a : Int} (h0 : 0 ≤ a) (h1 : a ≤ 3221225472) : nb (SG a) (2 * a) := by
  have hb := SG_bd a
  by_cases h : a ≤ 843314857
  · have e : SG a = sinF a := by
      unfold SG
      rw [wrap_unique (a := a) (w := a) (k := 0) (by omega) (by omega) (by omega)]
      congr 1
      unfold foldV; (repeat' split) <;> omega
    have hf := fabs_sm (w := a) (by unfold nb; omega)
    rw [if_neg (by omega)] at hf
    rw [e]
    unfold sinF
    rw [hf, decide_eq_true h, cond_true]
    have hx : nb a 843314857 := by unfold nb; omega
    obtain ⟨q0, q1⟩ := sqx_bd hx
    have hz := mul30 (hx.le (show (843314857 : Int) ≤ 4294967296 by omega)) (hx.le (show (843314857 : Int) ≤ 4294967296 by omega))
    have hl : sL1 = [2959, -213044, 8947849, -178956971] ++ [1073741824] := rfl
    obtain ⟨a0, -, -⟩ := ser_all (a := -27) (l := [2959, -213044, 8947849, -178956971]) q0 q1 hz (by unfold nb; omega) (by unfold nb; simp)
    rw [← hl] at a0
    have hs : nb (sinS0 a) (2 * a) := by
      unfold sinS0
      have hm := mul30 (hx.le (show (843314857 : Int) ≤ 4294967296 by omega)) (a0.le (show (2001141824 : Int) ≤ 4294967296 by omega))
      have p := (show nb a a by unfold nb; omega).mul a0
      generalize serV (mulV a a 30) (-27) sL1 = S at *
      unfold nb at *
      generalize a * S = aS at *
      omega
    rw [mm_def]
    unfold nb at *
    (repeat' split) <;> omega
  · unfold nb at *; omega
/-- The exponential's angle and factor, of a vector of length at most 4. -/
theorem ex_ok {v0 v1 v2 : Int} (h0 : nb v0 4294967296) (h1 : nb v1 4294967296) (h2 : nb v2 4294967296) (hn : exN v0 v1 v2 ≤ 4294967296) (hz : 1 ≤ exN v0 v1 v2) :
    nb (2 * exA v0 v1 v2 - exN v0 v1 v2) 1 ∧ 0 ≤ exA v0 v1 v2 ∧ nb (2 * (exS v0 v1 v2 * exN v0 v1 v2 - SG (exA v0 v1 v2) * 1073741824)) (exN v0 v1 v2) ∧ nb (exS v0 v1 v2) 2147483648 ∧
    divPH (sinV (exA v0 v1 v2)) (exN v0 v1 v2) 30 = false ∧ mulH (exN v0 v1 v2) 536870912 30 = false ∧ nb (exA v0 v1 v2) 1152921504606846976 ∧ nb (SG (exA v0 v1 v2)) (exN v0 v1 v2 + 1) := by
  have nn : nb (exN v0 v1 v2) 4294967296 := ⟨by omega, hn⟩
  have hm := mul30 (a := exN v0 v1 v2) (b := 536870912) nn (by unfold nb; omega)
  have hA2 : nb (2 * exA v0 v1 v2 - exN v0 v1 v2) 1 := by
    unfold exA
    unfold nb at *; omega
  have hA : nb (exA v0 v1 v2) 1152921504606846976 := by unfold nb at *; omega
  have hA0 : 0 ≤ exA v0 v1 v2 := by unfold nb at hA2; omega
  unfold exS
  rw [sinV_eq hA]
  generalize exA v0 v1 v2 = a at *
  generalize hN : exN v0 v1 v2 = n at *
  have hs2 := SG_two hA0 (by unfold nb at hA2; omega)
  have hs : nb (SG a) (n + 1) := by unfold nb at *; omega
  have hd := ddiv2 (v := SG a) (u := n) (by unfold nb at hs; omega) (by unfold nb at hs; omega) hz (by omega)
  exact ⟨hA2, hA0, hd.1, hd.2.1, hd.2.2, mulH30 nn (by unfold nb; omega), hA, hs⟩
theorem mul_z (s : Int) : mulV 0 s 30 = 0 ∧ mulH 0 s 30 = satH s := by
  have e : satV 0 = 0 := by decide
  constructor
  · unfold mulV rndS
    rw [e, Int.zero_mul, if_neg (by decide), if_neg (by decide)]; decide
  · unfold mulH rndH
    rw [e, Int.zero_mul]
    have h1 : satH 0 = false := by decide
    have h2 : (decide ((30 : Int) < 0) || (decide ((30 : Int) > 120) || satH (rndV 0 (Int.toNat 30)))) = false := by decide
    rw [h1, h2]; simp
theorem exN_up {a : Int} (ha : nb a 1099511627776) : exN 0 0 a = absV a := by
  obtain ⟨n0, n1, -, -, n2, n3, n4, -⟩ := hyp3 (a := 0) (b := 0) (c := a) (by unfold nb; omega) (by unfold nb; omega) ha
  generalize exN 0 0 a = n at *
  have e : a * a = absV a * absV a := (absSq a).symm
  have ab : 0 ≤ absV a := by unfold absV; split <;> omega
  have hle : absV a ≤ n := by unfold absV; split <;> omega
  rcases Int.lt_or_le (absV a) n with g | g
  · exfalso
    have : (absV a + 1) * absV a ≤ n * (n - 1) := Int.mul_le_mul (by omega) (by omega) ab n0
    have e1 : (absV a + 1) * absV a = absV a * absV a + absV a := by grind
    have e2 : n * (n - 1) = n * n - n := by grind
    omega
  · omega
/-- A product that a rounded quotient makes: v s, where s n is about S. -/
theorem vs_prod {v s n S : Int} (hv : v ≤ n ∧ -v ≤ n) (hn : 1 ≤ n) (hn1 : n ≤ 4294967296) (hs : nb (2 * (s * n - S * 1073741824)) n) (hs1 : nb s 2147483648) : nb (2 * (n * mulV v s 30 - v * S)) (5 * n) ∧ mulH v s 30 = false := by
  have hvn : nb v n := ⟨by omega, hv.1⟩
  have hm := mul30 (a := v) (b := s) (hvn.le (by omega)) (hs1.le (by omega))
  refine ⟨?_, mulH30 (hvn.le (by omega)) (hs1.le (by omega))⟩
  have p := hvn.mul hs
  have q := hm.lmul (show 0 ≤ n by omega)
  generalize mulV v s 30 = d at *
  refine nb.cancel (m := 1073741824) (by omega) ?_
  have e : 1073741824 * (2 * (n * d - v * S)) = n * (2 * (d * 1073741824 - v * s)) + v * (2 * (s * n - S * 1073741824)) := by grind
  rw [e]
  have hnn : n * n ≤ n * 4294967296 := Int.mul_le_mul_of_nonneg_left hn1 (by omega)
  unfold nb at *
  generalize n * (2 * (d * 1073741824 - v * s)) = A at *
  generalize v * (2 * (s * n - S * 1073741824)) = B at *
  generalize n * n = nn at *
  omega
/-- The exponential of an upright vector has its heading. -/
theorem yaws2 {a : Int} (ha : nb a 3221225472) : nb (atanV (rm3 (eV0 0 0 a) (eV1 0 0 a) (eV2 0 0 a) (eV3 0 0 a)) (rm0 (eV0 0 0 a) (eV1 0 0 a) (eV2 0 0 a) (eV3 0 0 a)) - a) 340 ∧
    nb (rm3 (eV0 0 0 a) (eV1 0 0 a) (eV2 0 0 a) (eV3 0 0 a)) 4294967296 ∧ nb (rm0 (eV0 0 0 a) (eV1 0 0 a) (eV2 0 0 a) (eV3 0 0 a)) 4294967296 ∧ UnitQ (eV0 0 0 a) 0 0 (eV3 0 0 a) ∧ eV1 0 0 a = 0 ∧ eV2 0 0 a = 0 ∧ (∀ h, eFl h 0 0 a = h) := by
  have ia : inS a := inS_nb ha (by omega)
  have hN := exN_up (a := a) (ha.le (by omega))
  obtain ⟨-, -, -, -, -, -, -, hH⟩ := hyp3 (a := 0) (b := 0) (c := a) (by unfold nb; omega) (by unfold nb; omega) (ha.le (by omega))
  have hS0 : satV 0 = 0 := by decide
  have hF0 : satH 0 = false := by decide
  have fH0 : ∀ h, exH0 h 0 0 a = h := by
    intro h
    unfold exH0
    rw [hH, hF0, satH_S ia]; simp
  by_cases hz : a = 0
  · subst hz
    have n0 : exN 0 0 0 = 0 := by rw [hN]; decide
    have e0 : eV0 0 0 0 = 1073741824 := by unfold eV0; rw [n0]; rfl
    have e1 : eV1 0 0 0 = 0 := by unfold eV1; rw [n0]; rfl
    have e2 : eV2 0 0 0 = 0 := by unfold eV2; rw [n0]; rfl
    have e3 : eV3 0 0 0 = 0 := by unfold eV3; rw [n0]; rfl
    rw [e0, e1, e2, e3, show rm3 1073741824 0 0 0 = 0 by decide +kernel, show rm0 1073741824 0 0 0 = 1073741824 by decide +kernel, show atanV 0 1073741824 = 0 by decide +kernel]
    refine ⟨by unfold nb; omega, by unfold nb; omega, by unfold nb; omega, ⟨by omega, by omega, by omega, by omega, by unfold nearU n4; omega⟩, rfl, rfl, fun h => ?_⟩
    unfold eFl
    rw [n0]
    exact fH0 h
  · have n1 : 1 ≤ exN 0 0 a := by rw [hN]; unfold absV; split <;> omega
    have n2 : exN 0 0 a ≤ 3221225472 := by unfold nb at ha; rw [hN]; unfold absV; split <;> omega
    obtain ⟨x1, x2, x3, x4, x5, x6, x7, x8⟩ := ex_ok (v0 := 0) (v1 := 0) (v2 := a) (by unfold nb; omega) (by unfold nb; omega) (ha.le (by omega)) (by omega) n1
    have hne : (exN 0 0 a == 0) = false := by simp; omega
    have hv : a ≤ exN 0 0 a ∧ -a ≤ exN 0 0 a := by rw [hN]; unfold absV; split <;> omega
    obtain ⟨v1, v2⟩ := vs_prod hv n1 (by omega) x3 x4
    have e0 : eV0 0 0 a = uV0 (CG (exA 0 0 a)) 0 0 (mulV a (exS 0 0 a) 30) := by unfold eV0; rw [cond_f hne, hS0, (mul_z _).1, cosV_eq, satV_S ia]
    have e1 : eV1 0 0 a = uV1 (CG (exA 0 0 a)) 0 0 (mulV a (exS 0 0 a) 30) := by unfold eV1; rw [cond_f hne, hS0, (mul_z _).1, cosV_eq, satV_S ia]
    have e2 : eV2 0 0 a = uV2 (CG (exA 0 0 a)) 0 0 (mulV a (exS 0 0 a) 30) := by unfold eV2; rw [cond_f hne, hS0, (mul_z _).1, cosV_eq, satV_S ia]
    have e3 : eV3 0 0 a = uV3 (CG (exA 0 0 a)) 0 0 (mulV a (exS 0 0 a) 30) := by unfold eV3; rw [cond_f hne, hS0, (mul_z _).1, cosV_eq, satV_S ia]
    have z := unit_z (CG (exA 0 0 a)) (mulV a (exS 0 0 a) 30)
    have cb := CG_bd (exA 0 0 a)
    have sb := SG_bd (exA 0 0 a)
    have oc := on_circle (exA 0 0 a)
    -- the angle with its sign
    have key : ∃ h, nb (2 * h - a) 1 ∧ CG h = CG (exA 0 0 a) ∧ nb (mulV a (exS 0 0 a) 30 - SG h) 2 := by
      rcases Int.le_total 0 a with g | g
      · refine ⟨exA 0 0 a, ?_, rfl, ?_⟩
        · rw [hN, absV_pos g] at x1; exact x1
        · rw [hN, absV_pos g] at v1 n1
          have e : 2 * (a * mulV a (exS 0 0 a) 30 - a * SG (exA 0 0 a)) = a * (2 * (mulV a (exS 0 0 a) 30 - SG (exA 0 0 a))) := by grind
          rw [e, show 5 * a = a * 5 by omega] at v1
          have := nb.cancel (by omega) v1
          unfold nb at *; omega
      · refine ⟨-exA 0 0 a, ?_, CG_neg _, ?_⟩
        · rw [hN, absV_neg g] at x1; unfold nb at *; omega
        · rw [hN, absV_neg g] at v1 n1
          rw [SG_neg]
          have e : 2 * (-a * mulV a (exS 0 0 a) 30 - a * SG (exA 0 0 a)) = -a * (2 * (mulV a (exS 0 0 a) 30 - -SG (exA 0 0 a))) := by grind
          rw [e, show 5 * -a = -a * 5 by omega] at v1
          have := nb.cancel (by omega) v1
          unfold nb at *; omega
    obtain ⟨h, k1, k2, k3⟩ := key
    have hd : nb (mulV a (exS 0 0 a) 30) 1084000000 := by
      have := SG_bd h
      unfold nb at *; omega
    have hs := SG_bd h
    have och := on_circle h
    rw [k2] at och
    rw [e0, e1, e2, e3, z.1, z.2]
    have hu := unit_ok (CG (exA 0 0 a)) 0 0 (mulV a (exS 0 0 a) 30)
    rw [z.1, z.2] at hu
    have dsq : nb (mulV a (exS 0 0 a) 30 * mulV a (exS 0 0 a) 30 - SG h * SG h) 8589934592 := by
      have e : mulV a (exS 0 0 a) 30 * mulV a (exS 0 0 a) 30 - SG h * SG h = (mulV a (exS 0 0 a) 30 - SG h) * (mulV a (exS 0 0 a) 30 + SG h) := by grind
      rw [e]
      exact (k3.mul ((show nb (mulV a (exS 0 0 a) 30 + SG h) 2147483650 by unfold nb at *; omega))).le (by omega)
    obtain ⟨d1, d2, d3⟩ := unit_dir (a := CG (exA 0 0 a)) (d := mulV a (exS 0 0 a) 30) (cb.le (by omega)) hd (by unfold nb at *; omega) (by unfold nb at *; omega)
    have f0b : nb (uV0 (CG (exA 0 0 a)) 0 0 (mulV a (exS 0 0 a) 30)) 1073741824 := hu.ha
    have hcr : nb (uV3 (CG (exA 0 0 a)) 0 0 (mulV a (exS 0 0 a) 30) * CG h - uV0 (CG (exA 0 0 a)) 0 0 (mulV a (exS 0 0 a) 30) * SG h) 5368709120 := by
      rw [k2]
      have p := f0b.mul k3
      have e : uV3 (CG (exA 0 0 a)) 0 0 (mulV a (exS 0 0 a) 30) * CG (exA 0 0 a) - uV0 (CG (exA 0 0 a)) 0 0 (mulV a (exS 0 0 a) 30) * SG h = (uV3 (CG (exA 0 0 a)) 0 0 (mulV a (exS 0 0 a) 30) * CG (exA 0 0 a) - uV0 (CG (exA 0 0 a)) 0 0 (mulV a (exS 0 0 a) 30) * mulV a (exS 0 0 a) 30) + uV0 (CG (exA 0 0 a)) 0 0 (mulV a (exS 0 0 a) 30) * (mulV a (exS 0 0 a) 30 - SG h) := by grind
      rw [e]
      exact (d1.add p).le (by omega)
    obtain ⟨y1, y2, y3⟩ := yaw_of (h := h) hu hcr
    refine ⟨?_, y2, y3, hu, rfl, rfl, fun hh => ?_⟩
    · generalize rm3 (uV0 (CG (exA 0 0 a)) 0 0 (mulV a (exS 0 0 a) 30)) 0 0 (uV3 (CG (exA 0 0 a)) 0 0 (mulV a (exS 0 0 a) 30)) = y at *
      generalize rm0 (uV0 (CG (exA 0 0 a)) 0 0 (mulV a (exS 0 0 a) 30)) 0 0 (uV3 (CG (exA 0 0 a)) 0 0 (mulV a (exS 0 0 a) 30)) = x at *
      have hb : nb (atanV y x) 3373259426 := by
        by_cases hz : y ≠ 0 ∨ x ≠ 0
        · exact (atan_sg (y2.le (by omega)) (y3.le (by omega)) hz).1
        · have e1 : y = 0 := by omega
          have e2 : x = 0 := by omega
          rw [e1, e2, show atanV 0 0 = 0 by decide +kernel]; unfold nb; omega
      obtain ⟨w0, w1, k, hk⟩ := wrap_spec (atanV y x - 2 * h)
      generalize wrapV (atanV y x - 2 * h) = w at *
      generalize atanV y x = r at *
      unfold nb at *
      omega
    · unfold eFl
      rw [cond_f hne]
      unfold exH1
      rw [fH0, x5, x6, hS0, (mul_z _).2, satH_S (inS_nb x4 (by omega)), satV_S ia, v2, (mul_z _).1, unit_fl, sinH_ok x7, cosH_ok]
      · simp
      · rw [cosV_eq]; exact cb.le (by omega)
      · unfold nb; omega
      · unfold nb; omega
      · exact hd.le (by omega)
end Go.Proofs.Ytaebmggjhjobnaa

/- The exponential near its direction; half a rotation twice. Plain. -/
namespace Go.Proofs.Ytaebmggjhjobnaa
open Go.Lr Go.Tg
set_option linter.unusedVariables false
set_option linter.unusedSimpArgs false

/-- The sum of the squares of what is nearly v S / n. -/
theorem sum_sq {n S v0 v1 v2 d0 d1 d2 : Int} (hn : 1 ≤ n) (hS : nb S (n + 1)) (hS1 : nb S 1073741824) (h0 : nb v0 n) (h1 : nb v1 n) (h2 : nb v2 n) (hv : nb (v0 * v0 + (v1 * v1 + v2 * v2) - n * n) n)
    (e0 : nb (2 * (n * d0 - v0 * S)) (5 * n)) (e1 : nb (2 * (n * d1 - v1 * S)) (5 * n)) (e2 : nb (2 * (n * d2 - v2 * S)) (5 * n)) : nb (d0 * d0 + (d1 * d1 + d2 * d2) - S * S) 19327352832 := by
  refine nb.cancel (m := 4 * (n * n)) (by have := Int.mul_pos (show 0 < n by omega) (show 0 < n by omega); omega) ?_
  have hSS := (hS1.mul hS)
  have t0 := hSS.mul hv
  have p0 := hS1.mul (h0.mul e0)
  have p1 := hS1.mul (h1.mul e1)
  have p2 := hS1.mul (h2.mul e2)
  have q0 := e0.mul e0
  have q1 := e1.mul e1
  have q2 := e2.mul e2
  have e : 4 * (n * n) * (d0 * d0 + (d1 * d1 + d2 * d2) - S * S) = 4 * (S * S * (v0 * v0 + (v1 * v1 + v2 * v2) - n * n)) + 4 * (S * (v0 * (2 * (n * d0 - v0 * S)))) + 4 * (S * (v1 * (2 * (n * d1 - v1 * S)))) + 4 * (S * (v2 * (2 * (n * d2 - v2 * S))))
      + 2 * (n * d0 - v0 * S) * (2 * (n * d0 - v0 * S)) + 2 * (n * d1 - v1 * S) * (2 * (n * d1 - v1 * S)) + 2 * (n * d2 - v2 * S) * (2 * (n * d2 - v2 * S)) := by grind
  rw [e]
  have k1 : 1073741824 * (n + 1) * n = 1073741824 * (n * n) + 1073741824 * n := by grind
  have k2 : 1073741824 * (n * (5 * n)) = 5368709120 * (n * n) := by grind
  have k3 : 5 * n * (5 * n) = 25 * (n * n) := by grind
  have k4 : 4 * (n * n) * 19327352832 = 77309411328 * (n * n) := by grind
  have k5 : n ≤ n * n := by have := Int.mul_le_mul_of_nonneg_left hn (show 0 ≤ n by omega); omega
  rw [k1] at t0
  rw [k2] at p0 p1 p2
  rw [k3] at q0 q1 q2
  rw [k4]
  unfold nb at t0 p0 p1 p2 q0 q1 q2 ⊢
  generalize S * S * (v0 * v0 + (v1 * v1 + v2 * v2) - n * n) = T at *
  generalize S * (v0 * (2 * (n * d0 - v0 * S))) = P0 at *
  generalize S * (v1 * (2 * (n * d1 - v1 * S))) = P1 at *
  generalize S * (v2 * (2 * (n * d2 - v2 * S))) = P2 at *
  generalize 2 * (n * d0 - v0 * S) * (2 * (n * d0 - v0 * S)) = Q0 at *
  generalize 2 * (n * d1 - v1 * S) * (2 * (n * d1 - v1 * S)) = Q1 at *
  generalize 2 * (n * d2 - v2 * S) * (2 * (n * d2 - v2 * S)) = Q2 at *
  generalize n * n = nn at *
  omega
/-- The exponential: near the cosine, and the vector's part of the sine. -/
structure ExpN (v0 v1 v2 n al C S d0 d1 d2 : Int) : Prop where
  n1 : 1 ≤ n
  al2 : nb (2 * al - n) 1
  al0 : 0 ≤ al
  eC : C = CG al
  eS : S = SG al
  b0 : nb v0 n
  b1 : nb v1 n
  b2 : nb v2 n
  hv : nb (v0 * v0 + (v1 * v1 + v2 * v2) - n * n) n
  e0 : nb (2 * (n * d0 - v0 * S)) (5 * n)
  e1 : nb (2 * (n * d1 - v1 * S)) (5 * n)
  e2 : nb (2 * (n * d2 - v2 * S)) (5 * n)
  x0 : nb (eV0 v0 v1 v2 - C) 28
  x1 : nb (eV1 v0 v1 v2 - d0) 28
  x2 : nb (eV2 v0 v1 v2 - d1) 28
  x3 : nb (eV3 v0 v1 v2 - d2) 28
  sn : nb S (n + 1)
theorem d_le {n d v S : Int} (hn : 1 ≤ n) (hv : nb v n) (hS : nb S 1073741824) (he : nb (2 * (n * d - v * S)) (5 * n)) : nb d 1073741827 := by
  have p := hv.mul hS
  refine nb.cancel (m := n) (by omega) ?_
  unfold nb at *
  generalize n * d = X at *
  generalize v * S = Y at *
  omega
theorem exp_near {v0 v1 v2 : Int} (h0 : nb v0 2147483648) (h1 : nb v1 2147483648) (h2 : nb v2 2147483648) (hz : 1 ≤ exN v0 v1 v2) :
    ExpN v0 v1 v2 (exN v0 v1 v2) (exA v0 v1 v2) (CG (exA v0 v1 v2)) (SG (exA v0 v1 v2)) (mulV v0 (exS v0 v1 v2) 30) (mulV v1 (exS v0 v1 v2) 30) (mulV v2 (exS v0 v1 v2) 30) ∧ (∀ h, eFl h v0 v1 v2 = h) ∧ exN v0 v1 v2 ≤ 3758096384 := by
  obtain ⟨n0, -, s0, s1, s2, n3, n4', hH⟩ := hyp3 (a := v0) (b := v1) (c := v2) (h0.le (by omega)) (h1.le (by omega)) (h2.le (by omega))
  have hnu : exN v0 v1 v2 ≤ 3758096384 := by
    generalize exN v0 v1 v2 = n at *
    have q0 := (h0.mul h0).2
    have q1 := (h1.mul h1).2
    have q2 := (h2.mul h2).2
    rcases Int.lt_or_le 3758096384 n with g | g
    · exfalso
      have : 3758096385 * 3758096384 ≤ n * (n - 1) := Int.mul_le_mul (by omega) (by omega) (by omega) (by omega)
      have e2 : n * (n - 1) = n * n - n := by grind
      omega
    · exact g
  obtain ⟨x1, x2, x3, x4, x5, x6, x7, x8⟩ := ex_ok (h0.le (by omega)) (h1.le (by omega)) (h2.le (by omega)) (by omega) hz
  have hne : (exN v0 v1 v2 == 0) = false := by simp; omega
  obtain ⟨a0, f0⟩ := vs_prod s0 hz (by omega) x3 x4
  obtain ⟨a1, f1⟩ := vs_prod s1 hz (by omega) x3 x4
  obtain ⟨a2, f2⟩ := vs_prod s2 hz (by omega) x3 x4
  have i0 := inS_nb h0 (by omega)
  have i1 := inS_nb h1 (by omega)
  have i2 := inS_nb h2 (by omega)
  have cb := CG_bd (exA v0 v1 v2)
  have sb := SG_bd (exA v0 v1 v2)
  have oc := on_circle (exA v0 v1 v2)
  have hvv : nb (v0 * v0 + (v1 * v1 + v2 * v2) - exN v0 v1 v2 * exN v0 v1 v2) (exN v0 v1 v2) := by unfold nb; omega
  have b0 : nb v0 (exN v0 v1 v2) := ⟨by omega, s0.1⟩
  have b1 : nb v1 (exN v0 v1 v2) := ⟨by omega, s1.1⟩
  have b2 : nb v2 (exN v0 v1 v2) := ⟨by omega, s2.1⟩
  have ss := sum_sq hz x8 sb b0 b1 b2 hvv a0 a1 a2
  have l0 := d_le hz b0 sb a0
  have l1 := d_le hz b1 sb a1
  have l2 := d_le hz b2 sb a2
  have u := unit_near (k := 23) (cb.le (show (1073741824 : Int) ≤ 2147483648 by omega)) (l0.le (show (1073741827 : Int) ≤ 2147483648 by omega)) (l1.le (show (1073741827 : Int) ≤ 2147483648 by omega)) (l2.le (show (1073741827 : Int) ≤ 2147483648 by omega)) (by omega) (by omega) (by unfold n4; unfold nb at *; omega)
  have e0 : eV0 v0 v1 v2 = uV0 (CG (exA v0 v1 v2)) (mulV v0 (exS v0 v1 v2) 30) (mulV v1 (exS v0 v1 v2) 30) (mulV v2 (exS v0 v1 v2) 30) := by unfold eV0; rw [cond_f hne, cosV_eq, satV_S i0, satV_S i1, satV_S i2]
  have e1 : eV1 v0 v1 v2 = uV1 (CG (exA v0 v1 v2)) (mulV v0 (exS v0 v1 v2) 30) (mulV v1 (exS v0 v1 v2) 30) (mulV v2 (exS v0 v1 v2) 30) := by unfold eV1; rw [cond_f hne, cosV_eq, satV_S i0, satV_S i1, satV_S i2]
  have e2 : eV2 v0 v1 v2 = uV2 (CG (exA v0 v1 v2)) (mulV v0 (exS v0 v1 v2) 30) (mulV v1 (exS v0 v1 v2) 30) (mulV v2 (exS v0 v1 v2) 30) := by unfold eV2; rw [cond_f hne, cosV_eq, satV_S i0, satV_S i1, satV_S i2]
  have e3 : eV3 v0 v1 v2 = uV3 (CG (exA v0 v1 v2)) (mulV v0 (exS v0 v1 v2) 30) (mulV v1 (exS v0 v1 v2) 30) (mulV v2 (exS v0 v1 v2) 30) := by unfold eV3; rw [cond_f hne, cosV_eq, satV_S i0, satV_S i1, satV_S i2]
  refine ⟨⟨hz, x1, x2, rfl, rfl, b0, b1, b2, hvv, a0, a1, a2, by rw [e0]; exact u.1, by rw [e1]; exact u.2.1, by rw [e2]; exact u.2.2.1, by rw [e3]; exact u.2.2.2, x8⟩, fun h => ?_, hnu⟩
  unfold eFl
  rw [cond_f hne]
  unfold exH1 exH0
  rw [hH, x5, x6, satH_S i0, satH_S i1, satH_S i2, satV_S i0, satV_S i1, satV_S i2, f0, f1, f2, unit_fl, sinH_ok x7, cosH_ok]
  · simp
  · rw [cosV_eq]; exact cb.le (by omega)
  · exact l0.le (by omega)
  · exact l1.le (by omega)
  · exact l2.le (by omega)
/-- One or two units more: the cosine and the sine hardly turn. -/
theorem CG_near {a b : Int} (h : nb (a - b) 2) : nb (CG a - CG b) 31 ∧ nb (SG a - SG b) 31 := by
  obtain ⟨s1, s2⟩ := sum_all b (a - b)
  rw [show b + (a - b) = a by omega] at s1 s2
  have cb := CG_bd b
  have sb := SG_bd b
  have hC : nb (CG (a - b) - 1073741824) 0 ∧ nb (SG (a - b)) 2 := by
    generalize a - b = d at *
    have hd : d = -2 ∨ d = -1 ∨ d = 0 ∨ d = 1 ∨ d = 2 := by unfold nb at h; omega
    have vc1 : CG 1 = 1073741824 := by decide +kernel
    have vc2 : CG 2 = 1073741824 := by decide +kernel
    have vs1 : SG 1 = 1 := by decide +kernel
    have vs2 : SG 2 = 2 := by decide +kernel
    rcases hd with rfl | rfl | rfl | rfl | rfl
    · rw [show (-2 : Int) = -(2) by omega, CG_neg, SG_neg, vc2, vs2]; unfold nb; omega
    · rw [show (-1 : Int) = -(1) by omega, CG_neg, SG_neg, vc1, vs1]; unfold nb; omega
    · rw [CG_0, SG_0]; unfold nb; omega
    · rw [vc1, vs1]; unfold nb; omega
    · rw [vc2, vs2]; unfold nb; omega
  have e : CG (a - b) = 1073741824 := by have := hC.1; unfold nb at this; omega
  rw [e] at s1 s2
  have p1 := sb.mul hC.2
  have p2 := cb.mul hC.2
  generalize SG b * SG (a - b) = x at *
  generalize CG b * SG (a - b) = y at *
  unfold nb at *
  omega
/-- A product of two numbers near others. -/
theorem mul_near {a b x y k B : Int} (ha : nb (a - x) k) (hb : nb (b - y) k) (hx : nb x B) (hy : nb y B) : nb (a * b - x * y) (2 * (k * B) + k * k) := by
  have e : a * b - x * y = (a - x) * y + (b - y) * x + (a - x) * (b - y) := by grind
  have p1 := ha.mul hy
  have p2 := hb.mul hx
  have p3 := ha.mul hb
  rw [e]
  unfold nb at *
  omega
/-- The two lengths. -/
theorem len_two {N M n m : Int} (hN : M = 4 * N) (n1 : 1 ≤ n) (m0 : 0 ≤ m) (a1 : N ≤ n * n + n) (a2 : n * n - n < N) (b1 : M ≤ m * m + m) (b2 : m = 0 ∨ m * m - m < M) : nb (m - 2 * n) 2 ∧ 1 ≤ m := by
  have hm1 : 1 ≤ m := by
    rcases Int.lt_or_le m 1 with g | g
    · exfalso
      have : m = 0 := by omega
      subst this
      have : 1 ≤ N := by
        have := Int.mul_le_mul_of_nonneg_left n1 (show 0 ≤ n by omega)
        omega
      omega
    · exact g
  have hm : m ≤ 2 * n + 2 := by
    rcases Int.lt_or_le (2 * n + 2) m with g | g
    · exfalso
      have : (2 * n + 3) * (2 * n + 2) ≤ m * (m - 1) := Int.mul_le_mul (by omega) (by omega) (by omega) (by omega)
      have e1 : (2 * n + 3) * (2 * n + 2) = 4 * (n * n) + 10 * n + 6 := by grind
      have e2 : m * (m - 1) = m * m - m := by grind
      omega
    · exact g
  have hm2 : 2 * n - 2 ≤ m := by
    rcases Int.lt_or_le m (2 * n - 2) with g | g
    · exfalso
      have : m * (m + 1) ≤ (2 * n - 3) * (2 * n - 2) := Int.mul_le_mul (by omega) (by omega) (by omega) (by omega)
      have e1 : (2 * n - 3) * (2 * n - 2) = 4 * (n * n) - 10 * n + 6 := by grind
      have e2 : m * (m + 1) = m * m + m := by grind
      omega
    · exact g
  exact ⟨by unfold nb; omega, hm1⟩
/-- A part of half a rotation's product against the whole's. -/
theorem part_near {n m x d D S T C : Int} (n1 : 1 ≤ n) (m1 : 1 ≤ m) (hm : nb (m - 2 * n) 2) (hx : nb x n) (hT : nb T (m + 1)) (hd : nb (2 * (n * d - x * S)) (5 * n)) (hD : nb (2 * (m * D - 2 * x * T)) (5 * m))
    (hC : nb C 1073741824) (hZ : nb (2 * (S * C) - 1073741824 * T) 64424509440) : nb (2 * (C * d) - 1073741824 * D) 85899345920 := by
  refine nb.cancel (m := 2 * (n * m)) (by have := Int.mul_pos (show 0 < n by omega) (show 0 < m by omega); omega) ?_
  have p1 := (hx.mul (hT.mul hm)).lmul (show (0 : Int) ≤ 2147483648 by omega)
  have p2 := (hx.mul hZ).lmul (show 0 ≤ 2 * m by omega)
  have p3 := (hC.mul hd).lmul (show 0 ≤ 2 * m by omega)
  have p4 := hD.lmul (show 0 ≤ 1073741824 * n by omega)
  have e : 2 * (n * m) * (2 * (C * d) - 1073741824 * D) = 2147483648 * (x * (T * (m - 2 * n))) + 2 * m * (x * (2 * (S * C) - 1073741824 * T)) + 2 * m * (C * (2 * (n * d - x * S))) - 1073741824 * n * (2 * (m * D - 2 * x * T)) := by grind
  rw [e]
  have k1 : 2147483648 * (n * ((m + 1) * 2)) = 4294967296 * (n * m) + 4294967296 * n := by grind
  have k2 : 2 * m * (n * 64424509440) = 128849018880 * (n * m) := by grind
  have k3 : 2 * m * (1073741824 * (5 * n)) = 10737418240 * (n * m) := by grind
  have k4 : 1073741824 * n * (5 * m) = 5368709120 * (n * m) := by grind
  have k5 : 2 * (n * m) * 85899345920 = 171798691840 * (n * m) := by grind
  have k6 : n ≤ n * m := by have := Int.mul_le_mul_of_nonneg_left m1 (show 0 ≤ n by omega); omega
  rw [k1] at p1
  rw [k2] at p2
  rw [k3] at p3
  rw [k4] at p4
  rw [k5]
  unfold nb at p1 p2 p3 p4 ⊢
  generalize 2147483648 * (x * (T * (m - 2 * n))) = A at *
  generalize 2 * m * (x * (2 * (S * C) - 1073741824 * T)) = B at *
  generalize 2 * m * (C * (2 * (n * d - x * S))) = D1 at *
  generalize 1073741824 * n * (2 * (m * D - 2 * x * T)) = E at *
  generalize n * m = nm at *
  omega
/-- Half a rotation twice: its parts against the whole's. -/
theorem twice_num {x0 x1 x2 n al C S d0 d1 d2 y0 y1 y2 m be K T D0 D1 D2 : Int} (h : ExpN x0 x1 x2 n al C S d0 d1 d2) (g : ExpN y0 y1 y2 m be K T D0 D1 D2) (e0 : y0 = 2 * x0) (e1 : y1 = 2 * x1) (e2 : y2 = 2 * x2) (hm : nb (m - 2 * n) 2) :
    nb (rndV (q0 (eV0 x0 x1 x2) (eV1 x0 x1 x2) (eV2 x0 x1 x2) (eV3 x0 x1 x2) (eV0 x0 x1 x2) (eV1 x0 x1 x2) (eV2 x0 x1 x2) (eV3 x0 x1 x2)) 30 - eV0 y0 y1 y2) 400 ∧
    nb (rndV (q1 (eV0 x0 x1 x2) (eV1 x0 x1 x2) (eV2 x0 x1 x2) (eV3 x0 x1 x2) (eV0 x0 x1 x2) (eV1 x0 x1 x2) (eV2 x0 x1 x2) (eV3 x0 x1 x2)) 30 - eV1 y0 y1 y2) 400 ∧
    nb (rndV (q2 (eV0 x0 x1 x2) (eV1 x0 x1 x2) (eV2 x0 x1 x2) (eV3 x0 x1 x2) (eV0 x0 x1 x2) (eV1 x0 x1 x2) (eV2 x0 x1 x2) (eV3 x0 x1 x2)) 30 - eV2 y0 y1 y2) 400 ∧
    nb (rndV (q3 (eV0 x0 x1 x2) (eV1 x0 x1 x2) (eV2 x0 x1 x2) (eV3 x0 x1 x2) (eV0 x0 x1 x2) (eV1 x0 x1 x2) (eV2 x0 x1 x2) (eV3 x0 x1 x2)) 30 - eV3 y0 y1 y2) 400 := by
  obtain ⟨n1, al2, al0, rfl, rfl, b0, b1, b2, hv, f0, f1, f2, u0, u1, u2, u3, sn⟩ := h
  obtain ⟨m1, be2, be0, rfl, rfl, c0, c1, c2, gv, g0, g1, g2, w0, w1, w2, w3, tn⟩ := g
  subst e0 e1 e2
  have cb := CG_bd al
  have sb := SG_bd al
  have kb := CG_bd be
  have tb := SG_bd be
  have oc := on_circle al
  obtain ⟨s1, s2⟩ := sum_all al al
  have hab : nb (al + al - be) 2 := by unfold nb at *; omega
  obtain ⟨r1, r2⟩ := CG_near hab
  generalize CG (al + al) = C2 at *
  generalize SG (al + al) = S2 at *
  generalize CG al = C at *
  generalize SG al = S at *
  generalize CG be = K at *
  generalize SG be = T at *
  have hZ : nb (2 * (S * C) - 1073741824 * T) 64424509440 := by
    have e : C * S = S * C := Int.mul_comm ..
    rw [e] at s2
    generalize S * C = SC at *
    unfold nb at *; omega
  have P0 := part_near n1 m1 hm b0 tn f0 g0 cb hZ
  have P1 := part_near n1 m1 hm b1 tn f1 g1 cb hZ
  have P2 := part_near n1 m1 hm b2 tn f2 g2 cb hZ
  have ss := sum_sq n1 sn sb b0 b1 b2 hv f0 f1 f2
  have l0 := d_le n1 b0 sb f0
  have l1 := d_le n1 b1 sb f1
  have l2 := d_le n1 b2 sb f2
  have cb' := cb.le (show (1073741824 : Int) ≤ 1073741827 by omega)
  generalize eV0 x0 x1 x2 = a0 at *
  generalize eV1 x0 x1 x2 = a1 at *
  generalize eV2 x0 x1 x2 = a2 at *
  generalize eV3 x0 x1 x2 = a3 at *
  generalize eV0 (2 * x0) (2 * x1) (2 * x2) = z0 at *
  generalize eV1 (2 * x0) (2 * x1) (2 * x2) = z1 at *
  generalize eV2 (2 * x0) (2 * x1) (2 * x2) = z2 at *
  generalize eV3 (2 * x0) (2 * x1) (2 * x2) = z3 at *
  have m00 := mul_near u0 u0 cb' cb'
  have m11 := mul_near u1 u1 l0 l0
  have m22 := mul_near u2 u2 l1 l1
  have m33 := mul_near u3 u3 l2 l2
  have m01 := mul_near u0 u1 cb' l0
  have m02 := mul_near u0 u2 cb' l1
  have m03 := mul_near u0 u3 cb' l2
  refine ⟨?_, ?_, ?_, ?_⟩
  · have r := rn30 (q0 a0 a1 a2 a3 a0 a1 a2 a3)
    have e : q0 a0 a1 a2 a3 a0 a1 a2 a3 = a0 * a0 - a1 * a1 - a2 * a2 - a3 * a3 := rfl
    rw [e] at r ⊢
    generalize rndV (a0 * a0 - a1 * a1 - a2 * a2 - a3 * a3) 30 = R at *
    unfold nb at *
    generalize a0 * a0 = A0 at *
    generalize a1 * a1 = A1 at *
    generalize a2 * a2 = A2 at *
    generalize a3 * a3 = A3 at *
    generalize C * C = CC at *
    generalize S * S = SS at *
    generalize d0 * d0 = dd0 at *
    generalize d1 * d1 = dd1 at *
    generalize d2 * d2 = dd2 at *
    clear m01 m02 m03 P0 P1 P2
    omega
  · have r := rn30 (q1 a0 a1 a2 a3 a0 a1 a2 a3)
    have e : q1 a0 a1 a2 a3 a0 a1 a2 a3 = 2 * (a0 * a1) := by unfold q1; grind
    rw [e] at r ⊢
    generalize rndV (2 * (a0 * a1)) 30 = R at *
    unfold nb at *
    generalize a0 * a1 = A at *
    generalize C * d0 = B at *
    clear m00 m11 m22 m33 m02 m03 P1 P2
    omega
  · have r := rn30 (q2 a0 a1 a2 a3 a0 a1 a2 a3)
    have e : q2 a0 a1 a2 a3 a0 a1 a2 a3 = 2 * (a0 * a2) := by unfold q2; grind
    rw [e] at r ⊢
    generalize rndV (2 * (a0 * a2)) 30 = R at *
    unfold nb at *
    generalize a0 * a2 = A at *
    generalize C * d1 = B at *
    clear m00 m11 m22 m33 m01 m03 P0 P2
    omega
  · have r := rn30 (q3 a0 a1 a2 a3 a0 a1 a2 a3)
    have e : q3 a0 a1 a2 a3 a0 a1 a2 a3 = 2 * (a0 * a3) := by unfold q3; grind
    rw [e] at r ⊢
    generalize rndV (2 * (a0 * a3)) 30 = R at *
    unfold nb at *
    generalize a0 * a3 = A at *
    generalize C * d2 = B at *
    clear m00 m11 m22 m33 m01 m02 P0 P1
    omega
end Go.Proofs.Ytaebmggjhjobnaa

/- Half a rotation twice, all cases; small rotations; turned vectors. Plain. -/
namespace Go.Proofs.Ytaebmggjhjobnaa
open Go.Lr Go.Tg
set_option linter.unusedVariables false
set_option linter.unusedSimpArgs false

/-- An exponential is a Unit. -/
theorem eV_unit (v0 v1 v2 : Int) : UnitQ (eV0 v0 v1 v2) (eV1 v0 v1 v2) (eV2 v0 v1 v2) (eV3 v0 v1 v2) := by
  unfold eV0 eV1 eV2 eV3
  rcases bool_cases (exN v0 v1 v2 == 0) with h | h
  · rw [cond_t h, cond_t h, cond_t h, cond_t h]
    exact ⟨by omega, by omega, by omega, by omega, by unfold nearU n4; omega⟩
  · rw [cond_f h, cond_f h, cond_f h, cond_f h]
    exact unit_ok _ _ _ _
/-- No rotation. -/
theorem exp_zero {v0 v1 v2 : Int} (h0 : nb v0 2147483648) (h1 : nb v1 2147483648) (h2 : nb v2 2147483648) (hz : exN v0 v1 v2 < 1) : v0 = 0 ∧ v1 = 0 ∧ v2 = 0 ∧ eV0 v0 v1 v2 = 1073741824 ∧ eV1 v0 v1 v2 = 0 ∧ eV2 v0 v1 v2 = 0 ∧ eV3 v0 v1 v2 = 0 ∧ (∀ h, eFl h v0 v1 v2 = h) := by
  obtain ⟨n0, -, s0, s1, s2, n3, n4', hH⟩ := hyp3 (a := v0) (b := v1) (c := v2) (h0.le (by omega)) (h1.le (by omega)) (h2.le (by omega))
  have hn : exN v0 v1 v2 = 0 := by omega
  have hb : (exN v0 v1 v2 == 0) = true := by rw [hn]; rfl
  rw [hn] at s0 s1 s2
  refine ⟨by omega, by omega, by omega, by unfold eV0; rw [cond_t hb], by unfold eV1; rw [cond_t hb], by unfold eV2; rw [cond_t hb], by unfold eV3; rw [cond_t hb], fun h => ?_⟩
  unfold eFl
  rw [cond_t hb]
  unfold exH0
  rw [hH, satH_S (inS_nb h0 (by omega)), satH_S (inS_nb h1 (by omega)), satH_S (inS_nb h2 (by omega))]
  simp
theorem exp_fl {v0 v1 v2 : Int} (h0 : nb v0 2147483648) (h1 : nb v1 2147483648) (h2 : nb v2 2147483648) (h : Bool) : eFl h v0 v1 v2 = h := by
  rcases Int.lt_or_le (exN v0 v1 v2) 1 with g | g
  · exact (exp_zero h0 h1 h2 g).2.2.2.2.2.2.2 h
  · exact (exp_near h0 h1 h2 g).2.1 h
/-- Half a rotation twice. -/
theorem twice_all {x0 x1 x2 : Int} (h0 : nb x0 805306368) (h1 : nb x1 805306368) (h2 : nb x2 805306368) :
    nb (mq0 (eV0 x0 x1 x2) (eV1 x0 x1 x2) (eV2 x0 x1 x2) (eV3 x0 x1 x2) (eV0 x0 x1 x2) (eV1 x0 x1 x2) (eV2 x0 x1 x2) (eV3 x0 x1 x2) - eV0 (2 * x0) (2 * x1) (2 * x2)) 400 ∧
    nb (mq1 (eV0 x0 x1 x2) (eV1 x0 x1 x2) (eV2 x0 x1 x2) (eV3 x0 x1 x2) (eV0 x0 x1 x2) (eV1 x0 x1 x2) (eV2 x0 x1 x2) (eV3 x0 x1 x2) - eV1 (2 * x0) (2 * x1) (2 * x2)) 400 ∧
    nb (mq2 (eV0 x0 x1 x2) (eV1 x0 x1 x2) (eV2 x0 x1 x2) (eV3 x0 x1 x2) (eV0 x0 x1 x2) (eV1 x0 x1 x2) (eV2 x0 x1 x2) (eV3 x0 x1 x2) - eV2 (2 * x0) (2 * x1) (2 * x2)) 400 ∧
    nb (mq3 (eV0 x0 x1 x2) (eV1 x0 x1 x2) (eV2 x0 x1 x2) (eV3 x0 x1 x2) (eV0 x0 x1 x2) (eV1 x0 x1 x2) (eV2 x0 x1 x2) (eV3 x0 x1 x2) - eV3 (2 * x0) (2 * x1) (2 * x2)) 400 ∧
    (∀ h, mulQH h (eV0 x0 x1 x2) (eV1 x0 x1 x2) (eV2 x0 x1 x2) (eV3 x0 x1 x2) (eV0 x0 x1 x2) (eV1 x0 x1 x2) (eV2 x0 x1 x2) (eV3 x0 x1 x2) = h) ∧ (∀ h, eFl h x0 x1 x2 = h) ∧ (∀ h, eFl h (2 * x0) (2 * x1) (2 * x2) = h) := by
  have u := eV_unit x0 x1 x2
  have o0 := (show one (eV0 x0 x1 x2) from u.ha).sm
  have o1 := (show one (eV1 x0 x1 x2) from u.hb).sm
  have o2 := (show one (eV2 x0 x1 x2) from u.hc).sm
  have o3 := (show one (eV3 x0 x1 x2) from u.hd).sm
  obtain ⟨e0, e1, e2, e3, ef⟩ := mq_eq o0 o1 o2 o3 o0 o1 o2 o3
  have k0 : nb (2 * x0) 2147483648 := by unfold nb at *; omega
  have k1 : nb (2 * x1) 2147483648 := by unfold nb at *; omega
  have k2 : nb (2 * x2) 2147483648 := by unfold nb at *; omega
  have l0 := h0.le (show (805306368 : Int) ≤ 2147483648 by omega)
  have l1 := h1.le (show (805306368 : Int) ≤ 2147483648 by omega)
  have l2 := h2.le (show (805306368 : Int) ≤ 2147483648 by omega)
  refine ⟨?_, ?_, ?_, ?_, ef, exp_fl l0 l1 l2, exp_fl k0 k1 k2⟩ <;> (
    rcases Int.lt_or_le (exN x0 x1 x2) 1 with g | g
    · obtain ⟨z0, z1, z2, t0, t1, t2, t3, -⟩ := exp_zero l0 l1 l2 g
      subst z0 z1 z2
      have w0 : (2 : Int) * 0 = 0 := by omega
      rw [w0]
      first
        | rw [e0, t0, t1, t2, t3, show rndV (q0 1073741824 0 0 0 1073741824 0 0 0) 30 = 1073741824 by decide +kernel]; unfold nb; omega
        | rw [e1, t0, t1, t2, t3, show rndV (q1 1073741824 0 0 0 1073741824 0 0 0) 30 = 0 by decide +kernel]; unfold nb; omega
        | rw [e2, t0, t1, t2, t3, show rndV (q2 1073741824 0 0 0 1073741824 0 0 0) 30 = 0 by decide +kernel]; unfold nb; omega
        | rw [e3, t0, t1, t2, t3, show rndV (q3 1073741824 0 0 0 1073741824 0 0 0) 30 = 0 by decide +kernel]; unfold nb; omega
    · obtain ⟨hA, -, -⟩ := exp_near l0 l1 l2 g
      obtain ⟨n0, -, -, -, -, n3, n4', -⟩ := hyp3 (a := x0) (b := x1) (c := x2) (l0.le (by omega)) (l1.le (by omega)) (l2.le (by omega))
      obtain ⟨m0, -, -, -, -, m3, m4, -⟩ := hyp3 (a := 2 * x0) (b := 2 * x1) (c := 2 * x2) (k0.le (by omega)) (k1.le (by omega)) (k2.le (by omega))
      obtain ⟨p1, p2⟩ := len_two (N := x0 * x0 + (x1 * x1 + x2 * x2)) (M := 2 * x0 * (2 * x0) + (2 * x1 * (2 * x1) + 2 * x2 * (2 * x2))) (n := exN x0 x1 x2) (m := exN (2 * x0) (2 * x1) (2 * x2)) (by grind) g m0 n3 (by omega) m3 m4
      obtain ⟨hB, -, -⟩ := exp_near k0 k1 k2 p2
      have T := twice_num hA hB rfl rfl rfl p1
      first
        | (rw [e0]; exact T.1)
        | (rw [e1]; exact T.2.1)
        | (rw [e2]; exact T.2.2.1)
        | (rw [e3]; exact T.2.2.2))
end Go.Proofs.Ytaebmggjhjobnaa

/- Matrices of Units: turned vectors. Plain. -/
namespace Go.Proofs.Ytaebmggjhjobnaa
open Go.Lr Go.Tg
set_option linter.unusedVariables false
set_option linter.unusedSimpArgs false

/-- A row times a vector. -/
theorem dot3 {x0 x1 x2 y0 y1 y2 : Int} (a0 : nb x0 4294967296) (a1 : nb x1 4294967296) (a2 : nb x2 4294967296) (b0 : nb y0 4398046511104) (b1 : nb y1 4398046511104) (b2 : nb y2 4398046511104) :
    nb (2 * (dotV 30 [x0, x1, x2] [y0, y1, y2] * 1073741824 - (x0 * y0 + x1 * y1 + x2 * y2))) 1073741824 ∧ dotH 30 [x0, x1, x2] [y0, y1, y2] = false := by
  have m0 := a0.mul b0
  have m1 := a1.mul b1
  have m2 := a2.mul b2
  have i0 := inS_nb a0 (by omega)
  have i1 := inS_nb a1 (by omega)
  have i2 := inS_nb a2 (by omega)
  have j0 := inS_nb b0 (by omega)
  have j1 := inS_nb b1 (by omega)
  have j2 := inS_nb b2 (by omega)
  have e : dotS [x0, x1, x2] [y0, y1, y2] = x0 * y0 + x1 * y1 + x2 * y2 := by
    simp only [dotS]
    rw [satV_S i0, satV_S i1, satV_S i2, satV_S j0, satV_S j1, satV_S j2]
    omega
  have f : dotFl [x0, x1, x2] [y0, y1, y2] = false := by
    simp only [dotFl]
    rw [satH_S i0, satH_S i1, satH_S i2, satH_S j0, satH_S j1, satH_S j2]
    rfl
  have hb := rn30 (x0 * y0 + x1 * y1 + x2 * y2)
  have g : rndS (x0 * y0 + x1 * y1 + x2 * y2) 30 = rndV (x0 * y0 + x1 * y1 + x2 * y2) 30 ∧ rndH (x0 * y0 + x1 * y1 + x2 * y2) 30 = false := by
    unfold nb at *
    unfold rndS rndH
    rw [if_neg (by decide), if_neg (by decide), show Int.toNat 30 = 30 from rfl, sat_in (by omega) (by omega), satH_in (by omega) (by omega)]
    exact ⟨rfl, by decide⟩
  constructor
  · show nb (2 * (rndS (dotS [x0, x1, x2] [y0, y1, y2]) 30 * 1073741824 - (x0 * y0 + x1 * y1 + x2 * y2))) 1073741824
    rw [e, g.1]; exact hb
  · show (dotFl [x0, x1, x2] [y0, y1, y2] || rndH (dotS [x0, x1, x2] [y0, y1, y2]) 30) = false
    rw [e, f, g.2]; rfl
/-- An entry's exact value is at most the length's square. -/
theorem mx_le (s0 s1 s2 s3 : Int) : nb (mx0 s0 s1 s2 s3) (n4 s0 s1 s2 s3) ∧ nb (mx1 s0 s1 s2 s3) (n4 s0 s1 s2 s3) ∧ nb (mx2 s0 s1 s2 s3) (n4 s0 s1 s2 s3) ∧ nb (mx3 s0 s1 s2 s3) (n4 s0 s1 s2 s3) ∧ nb (mx4 s0 s1 s2 s3) (n4 s0 s1 s2 s3) ∧ nb (mx5 s0 s1 s2 s3) (n4 s0 s1 s2 s3) ∧ nb (mx6 s0 s1 s2 s3) (n4 s0 s1 s2 s3) ∧ nb (mx7 s0 s1 s2 s3) (n4 s0 s1 s2 s3) ∧ nb (mx8 s0 s1 s2 s3) (n4 s0 s1 s2 s3) := by
  have q0 := sqnn0 s0
  have q1 := sqnn0 s1
  have q2 := sqnn0 s2
  have q3 := sqnn0 s3
  have am : ∀ a b : Int, nb (2 * (a * b)) (a * a + b * b) := by
    intro a b
    have h1 := sqnn0 (a - b)
    have h2 := sqnn0 (a + b)
    have e1 : (a - b) * (a - b) = a * a - 2 * (a * b) + b * b := by grind
    have e2 : (a + b) * (a + b) = a * a + 2 * (a * b) + b * b := by grind
    unfold nb; omega
  have p12 := am s1 s2
  have p03 := am s0 s3
  have p13 := am s1 s3
  have p02 := am s0 s2
  have p23 := am s2 s3
  have p01 := am s0 s1
  unfold nb at *
  unfold mx0 mx1 mx2 mx3 mx4 mx5 mx6 mx7 mx8 n4
  generalize s0 * s0 = a0 at *
  generalize s1 * s1 = a1 at *
  generalize s2 * s2 = a2 at *
  generalize s3 * s3 = a3 at *
  omega
/-- The product of two entries against the exact one. -/
theorem ent {m n M N : Int} (hm : nb (2 * (m * 1073741824 - M)) 1073741824) (hn : nb (2 * (n * 1073741824 - N)) 1073741824) (bM : nb M 1152921508365000000) (bN : nb N 1152921508365000000) :
    nb (1152921504606846976 * (m * n) - M * N) 1237940043700000000000000000 := by
  have a := bM.mul hn
  have b := bN.mul hm
  have c := hm.mul hn
  have e : 4 * (1152921504606846976 * (m * n) - M * N) = 2 * (M * (2 * (n * 1073741824 - N))) + 2 * (N * (2 * (m * 1073741824 - M))) + 2 * (m * 1073741824 - M) * (2 * (n * 1073741824 - N)) := by grind
  unfold nb at *
  generalize M * (2 * (n * 1073741824 - N)) = A at *
  generalize N * (2 * (m * 1073741824 - M)) = B at *
  generalize 2 * (m * 1073741824 - M) * (2 * (n * 1073741824 - N)) = C at *
  generalize 1152921504606846976 * (m * n) - M * N = X at *
  omega
/-- The columns of a matrix: of length one, upright on one another. -/
structure Cols (m0 m1 m2 m3 m4 m5 m6 m7 m8 : Int) : Prop where
  c00 : nb (m0 * m0 + m3 * m3 + m6 * m6 - 1152921504606846976) 11811160064
  c11 : nb (m1 * m1 + m4 * m4 + m7 * m7 - 1152921504606846976) 11811160064
  c22 : nb (m2 * m2 + m5 * m5 + m8 * m8 - 1152921504606846976) 11811160064
  c01 : nb (m0 * m1 + m3 * m4 + m6 * m7) 4294967296
  c02 : nb (m0 * m2 + m3 * m5 + m6 * m8) 4294967296
  c12 : nb (m1 * m2 + m4 * m5 + m7 * m8) 4294967296
  b0 : nb m0 1073741830
  b1 : nb m1 1073741830
  b2 : nb m2 1073741830
  b3 : nb m3 1073741830
  b4 : nb m4 1073741830
  b5 : nb m5 1073741830
  b6 : nb m6 1073741830
  b7 : nb m7 1073741830
  b8 : nb m8 1073741830
theorem col_cancel {x a b c A B C k : Int} (h : x = a + b + c) (ea : nb (1152921504606846976 * a - A) 1237940043700000000000000000) (eb : nb (1152921504606846976 * b - B) 1237940043700000000000000000) (ec : nb (1152921504606846976 * c - C) 1237940043700000000000000000) (hk : A + B + C = k) : nb (1152921504606846976 * x - k) 3713820131100000000000000000 := by
  subst h hk
  unfold nb at *; omega
theorem cols_ok {s0 s1 s2 s3 : Int} (h : UnitQ s0 s1 s2 s3) : Cols (rm0 s0 s1 s2 s3) (rm1 s0 s1 s2 s3) (rm2 s0 s1 s2 s3) (rm3 s0 s1 s2 s3) (rm4 s0 s1 s2 s3) (rm5 s0 s1 s2 s3) (rm6 s0 s1 s2 s3) (rm7 s0 s1 s2 s3) (rm8 s0 s1 s2 s3) := by
  obtain ⟨e0, e1, e2, e3, e4, e5, e6, e7, e8, -⟩ := rm_eq h.ha h.hb h.hc h.hd
  have hn := h.hn
  obtain ⟨l0, l1, l2, l3, l4, l5, l6, l7, l8⟩ := mx_le s0 s1 s2 s3
  rw [e0, e1, e2, e3, e4, e5, e6, e7, e8]
  have hN : nb (n4 s0 s1 s2 s3 - 1152921504606846976) 3758096384 := by unfold nearU at hn; unfold nb; omega
  have hN2 : n4 s0 s1 s2 s3 ≤ 1152921508365000000 := by unfold nb at hN; omega
  have i00 : mx0 s0 s1 s2 s3 * mx0 s0 s1 s2 s3 + mx3 s0 s1 s2 s3 * mx3 s0 s1 s2 s3 + mx6 s0 s1 s2 s3 * mx6 s0 s1 s2 s3 = n4 s0 s1 s2 s3 * n4 s0 s1 s2 s3 := by unfold mx0 mx3 mx6 n4; grind
  have i11 : mx1 s0 s1 s2 s3 * mx1 s0 s1 s2 s3 + mx4 s0 s1 s2 s3 * mx4 s0 s1 s2 s3 + mx7 s0 s1 s2 s3 * mx7 s0 s1 s2 s3 = n4 s0 s1 s2 s3 * n4 s0 s1 s2 s3 := by unfold mx1 mx4 mx7 n4; grind
  have i22 : mx2 s0 s1 s2 s3 * mx2 s0 s1 s2 s3 + mx5 s0 s1 s2 s3 * mx5 s0 s1 s2 s3 + mx8 s0 s1 s2 s3 * mx8 s0 s1 s2 s3 = n4 s0 s1 s2 s3 * n4 s0 s1 s2 s3 := by unfold mx2 mx5 mx8 n4; grind
  have i01 : mx0 s0 s1 s2 s3 * mx1 s0 s1 s2 s3 + mx3 s0 s1 s2 s3 * mx4 s0 s1 s2 s3 + mx6 s0 s1 s2 s3 * mx7 s0 s1 s2 s3 = 0 := by unfold mx0 mx1 mx3 mx4 mx6 mx7; grind
  have i02 : mx0 s0 s1 s2 s3 * mx2 s0 s1 s2 s3 + mx3 s0 s1 s2 s3 * mx5 s0 s1 s2 s3 + mx6 s0 s1 s2 s3 * mx8 s0 s1 s2 s3 = 0 := by unfold mx0 mx2 mx3 mx5 mx6 mx8; grind
  have i12 : mx1 s0 s1 s2 s3 * mx2 s0 s1 s2 s3 + mx4 s0 s1 s2 s3 * mx5 s0 s1 s2 s3 + mx7 s0 s1 s2 s3 * mx8 s0 s1 s2 s3 = 0 := by unfold mx1 mx2 mx4 mx5 mx7 mx8; grind
  have hNN : nb (n4 s0 s1 s2 s3 * n4 s0 s1 s2 s3 - 1152921504606846976 * 1152921504606846976) 8665600000000000000000000000 := by
    have p := hN.mul hN
    have e : n4 s0 s1 s2 s3 * n4 s0 s1 s2 s3 - 1152921504606846976 * 1152921504606846976 = (n4 s0 s1 s2 s3 - 1152921504606846976) * (n4 s0 s1 s2 s3 - 1152921504606846976) + 2305843009213693952 * (n4 s0 s1 s2 s3 - 1152921504606846976) := by grind
    rw [e]
    generalize (n4 s0 s1 s2 s3 - 1152921504606846976) * (n4 s0 s1 s2 s3 - 1152921504606846976) = X at *
    generalize n4 s0 s1 s2 s3 - 1152921504606846976 = Y at *
    unfold nb at *; omega
  generalize n4 s0 s1 s2 s3 * n4 s0 s1 s2 s3 = NN at *
  have r0 := rn30 (mx0 s0 s1 s2 s3)
  have r1 := rn30 (mx1 s0 s1 s2 s3)
  have r2 := rn30 (mx2 s0 s1 s2 s3)
  have r3 := rn30 (mx3 s0 s1 s2 s3)
  have r4 := rn30 (mx4 s0 s1 s2 s3)
  have r5 := rn30 (mx5 s0 s1 s2 s3)
  have r6 := rn30 (mx6 s0 s1 s2 s3)
  have r7 := rn30 (mx7 s0 s1 s2 s3)
  have r8 := rn30 (mx8 s0 s1 s2 s3)
  have L0 := l0.le hN2
  have L1 := l1.le hN2
  have L2 := l2.le hN2
  have L3 := l3.le hN2
  have L4 := l4.le hN2
  have L5 := l5.le hN2
  have L6 := l6.le hN2
  have L7 := l7.le hN2
  have L8 := l8.le hN2
  clear l0 l1 l2 l3 l4 l5 l6 l7 l8
  have bd : ∀ {m M : Int}, nb (2 * (m * 1073741824 - M)) 1073741824 → nb M 1152921508365000000 → nb m 1073741830 := by
    intro m M h1 h2; unfold nb at *; omega
  have dg : ∀ {x k : Int}, nb (1152921504606846976 * x - k) 3713820131100000000000000000 → nb (k - 1152921504606846976 * 1152921504606846976) 8665600000000000000000000000 → nb (x - 1152921504606846976) 11811160064 := by
    intro x k h1 h2; unfold nb at *; omega
  have og : ∀ {x : Int}, nb (1152921504606846976 * x - 0) 3713820131100000000000000000 → nb x 4294967296 := by
    intro x h1; unfold nb at *; omega
  exact ⟨dg (col_cancel rfl (ent r0 r0 L0 L0) (ent r3 r3 L3 L3) (ent r6 r6 L6 L6) i00) hNN, dg (col_cancel rfl (ent r1 r1 L1 L1) (ent r4 r4 L4 L4) (ent r7 r7 L7 L7) i11) hNN, dg (col_cancel rfl (ent r2 r2 L2 L2) (ent r5 r5 L5 L5) (ent r8 r8 L8 L8) i22) hNN,
    og (col_cancel rfl (ent r0 r1 L0 L1) (ent r3 r4 L3 L4) (ent r6 r7 L6 L7) i01), og (col_cancel rfl (ent r0 r2 L0 L2) (ent r3 r5 L3 L5) (ent r6 r8 L6 L8) i02), og (col_cancel rfl (ent r1 r2 L1 L2) (ent r4 r5 L4 L5) (ent r7 r8 L7 L8) i12),
    bd r0 L0, bd r1 L1, bd r2 L2, bd r3 L3, bd r4 L4, bd r5 L5, bd r6 L6, bd r7 L7, bd r8 L8⟩
/-- One number of a vector that is turned and turned back. -/
theorem back1 {a0 a1 a2 p0 p1 p2 q0 q1 q2 v0 v1 v2 w0 w1 w2 b : Int} (ha0 : nb a0 1073741830) (ha1 : nb a1 1073741830) (ha2 : nb a2 1073741830) (hv0 : nb v0 1099511627776) (hv1 : nb v1 1099511627776) (hv2 : nb v2 1099511627776)
    (cd : nb (a0 * a0 + a1 * a1 + a2 * a2 - 1152921504606846976) 11811160064) (cp : nb (a0 * p0 + a1 * p1 + a2 * p2) 4294967296) (cq : nb (a0 * q0 + a1 * q1 + a2 * q2) 4294967296)
    (hw0 : nb (2 * (w0 * 1073741824 - (a0 * v0 + p0 * v1 + q0 * v2))) 1073741824) (hw1 : nb (2 * (w1 * 1073741824 - (a1 * v0 + p1 * v1 + q1 * v2))) 1073741824) (hw2 : nb (2 * (w2 * 1073741824 - (a2 * v0 + p2 * v1 + q2 * v2))) 1073741824)
    (hb : nb (2 * (b * 1073741824 - (a0 * w0 + a1 * w1 + a2 * w2))) 1073741824) : nb (b - v0) 32768 := by
  have e : 2 * (1152921504606846976 * (b - v0)) = 1073741824 * (2 * (b * 1073741824 - (a0 * w0 + a1 * w1 + a2 * w2))) + a0 * (2 * (w0 * 1073741824 - (a0 * v0 + p0 * v1 + q0 * v2))) + a1 * (2 * (w1 * 1073741824 - (a1 * v0 + p1 * v1 + q1 * v2))) + a2 * (2 * (w2 * 1073741824 - (a2 * v0 + p2 * v1 + q2 * v2)))
      + 2 * ((a0 * a0 + a1 * a1 + a2 * a2 - 1152921504606846976) * v0) + 2 * ((a0 * p0 + a1 * p1 + a2 * p2) * v1) + 2 * ((a0 * q0 + a1 * q1 + a2 * q2) * v2) := by grind
  have t0 := ha0.mul hw0
  have t1 := ha1.mul hw1
  have t2 := ha2.mul hw2
  have t3 := cd.mul hv0
  have t4 := cp.mul hv1
  have t5 := cq.mul hv2
  unfold nb at *
  generalize a0 * (2 * (w0 * 1073741824 - (a0 * v0 + p0 * v1 + q0 * v2))) = A0 at *
  generalize a1 * (2 * (w1 * 1073741824 - (a1 * v0 + p1 * v1 + q1 * v2))) = A1 at *
  generalize a2 * (2 * (w2 * 1073741824 - (a2 * v0 + p2 * v1 + q2 * v2))) = A2 at *
  generalize (a0 * a0 + a1 * a1 + a2 * a2 - 1152921504606846976) * v0 = B0 at *
  generalize (a0 * p0 + a1 * p1 + a2 * p2) * v1 = B1 at *
  generalize (a0 * q0 + a1 * q1 + a2 * q2) * v2 = B2 at *
  generalize 2 * (b * 1073741824 - (a0 * w0 + a1 * w1 + a2 * w2)) = Z at *
  omega
/-- A turned vector keeps its length. -/
theorem norm_turn {m0 m1 m2 m3 m4 m5 m6 m7 m8 v0 v1 v2 w0 w1 w2 : Int} (hc : Cols m0 m1 m2 m3 m4 m5 m6 m7 m8) (hv0 : nb v0 1099511627776) (hv1 : nb v1 1099511627776) (hv2 : nb v2 1099511627776) (gw0 : nb w0 4398046511104) (gw1 : nb w1 4398046511104) (gw2 : nb w2 4398046511104)
    (hw0 : nb (2 * (w0 * 1073741824 - (m0 * v0 + m1 * v1 + m2 * v2))) 1073741824) (hw1 : nb (2 * (w1 * 1073741824 - (m3 * v0 + m4 * v1 + m5 * v2))) 1073741824) (hw2 : nb (2 * (w2 * 1073741824 - (m6 * v0 + m7 * v1 + m8 * v2))) 1073741824) :
    nb (1073741824 * (w0 * w0 + w1 * w1 + w2 * w2 - (v0 * v0 + v1 * v1 + v2 * v2))) (20 * (v0 * v0 + v1 * v1 + v2 * v2) + 1073741824 * (w0.natAbs + w1.natAbs + w2.natAbs) + 4294967296) := by
  have q0 := sqnn0 v0
  have q1 := sqnn0 v1
  have q2 := sqnn0 v2
  have am : ∀ a b : Int, nb (2 * (a * b)) (a * a + b * b) := by
    intro a b
    have h1 := sqnn0 (a - b)
    have h2 := sqnn0 (a + b)
    have e1 : (a - b) * (a - b) = a * a - 2 * (a * b) + b * b := by grind
    have e2 : (a + b) * (a + b) = a * a + 2 * (a * b) + b * b := by grind
    unfold nb; omega
  -- the form of the columns
  have f0 := hc.c00.mul (show nb (v0 * v0) (v0 * v0) by unfold nb; omega)
  have f1 := hc.c11.mul (show nb (v1 * v1) (v1 * v1) by unfold nb; omega)
  have f2 := hc.c22.mul (show nb (v2 * v2) (v2 * v2) by unfold nb; omega)
  have g01 := hc.c01.mul (am v0 v1)
  have g02 := hc.c02.mul (am v0 v2)
  have g12 := hc.c12.mul (am v1 v2)
  -- the roundings
  have sq : ∀ {w S : Int}, nb (2 * (w * 1073741824 - S)) 1073741824 → nb (1152921504606846976 * (w * w) - S * S) (1152921504606846976 * w.natAbs + 1152921504606846976) := by
    intro w S h
    have hw : nb w w.natAbs := by unfold nb; omega
    have p := hw.mul h
    have p2 := h.mul h
    have e : 4 * (1152921504606846976 * (w * w) - S * S) = 4294967296 * (w * (2 * (w * 1073741824 - S))) - 2 * (w * 1073741824 - S) * (2 * (w * 1073741824 - S)) := by grind
    generalize (w.natAbs : Int) = n at *
    have hn : 0 ≤ n := by unfold nb at hw; omega
    unfold nb at *
    generalize w * (2 * (w * 1073741824 - S)) = A at *
    generalize 2 * (w * 1073741824 - S) * (2 * (w * 1073741824 - S)) = B at *
    generalize 1152921504606846976 * (w * w) - S * S = X at *
    omega
  have s0 := sq hw0
  have s1 := sq hw1
  have s2 := sq hw2
  have e : (m0 * v0 + m1 * v1 + m2 * v2) * (m0 * v0 + m1 * v1 + m2 * v2) + (m3 * v0 + m4 * v1 + m5 * v2) * (m3 * v0 + m4 * v1 + m5 * v2) + (m6 * v0 + m7 * v1 + m8 * v2) * (m6 * v0 + m7 * v1 + m8 * v2)
      = 1152921504606846976 * (v0 * v0 + v1 * v1 + v2 * v2) + (m0 * m0 + m3 * m3 + m6 * m6 - 1152921504606846976) * (v0 * v0) + (m1 * m1 + m4 * m4 + m7 * m7 - 1152921504606846976) * (v1 * v1) + (m2 * m2 + m5 * m5 + m8 * m8 - 1152921504606846976) * (v2 * v2)
        + (m0 * m1 + m3 * m4 + m6 * m7) * (2 * (v0 * v1)) + (m0 * m2 + m3 * m5 + m6 * m8) * (2 * (v0 * v2)) + (m1 * m2 + m4 * m5 + m7 * m8) * (2 * (v1 * v2)) := by grind
  generalize (m0 * v0 + m1 * v1 + m2 * v2) * (m0 * v0 + m1 * v1 + m2 * v2) = S0 at *
  generalize (m3 * v0 + m4 * v1 + m5 * v2) * (m3 * v0 + m4 * v1 + m5 * v2) = S1 at *
  generalize (m6 * v0 + m7 * v1 + m8 * v2) * (m6 * v0 + m7 * v1 + m8 * v2) = S2 at *
  generalize (m0 * m0 + m3 * m3 + m6 * m6 - 1152921504606846976) * (v0 * v0) = F0 at *
  generalize (m1 * m1 + m4 * m4 + m7 * m7 - 1152921504606846976) * (v1 * v1) = F1 at *
  generalize (m2 * m2 + m5 * m5 + m8 * m8 - 1152921504606846976) * (v2 * v2) = F2 at *
  generalize (m0 * m1 + m3 * m4 + m6 * m7) * (2 * (v0 * v1)) = G01 at *
  generalize (m0 * m2 + m3 * m5 + m6 * m8) * (2 * (v0 * v2)) = G02 at *
  generalize (m1 * m2 + m4 * m5 + m7 * m8) * (2 * (v1 * v2)) = G12 at *
  generalize v0 * v0 = V0 at *
  generalize v1 * v1 = V1 at *
  generalize v2 * v2 = V2 at *
  generalize w0 * w0 = W0 at *
  generalize w1 * w1 = W1 at *
  generalize w2 * w2 = W2 at *
  clear hw0 hw1 hw2 hc sq am
  unfold nb at *
  generalize (w0.natAbs : Int) = N0 at *
  generalize (w1.natAbs : Int) = N1 at *
  generalize (w2.natAbs : Int) = N2 at *
  omega
/-- Lengths, off their squares. -/
theorem len_near {V W n m : Int} (n0 : 0 ≤ n) (m0 : 0 ≤ m) (n1 : n ≤ 2199023255552) (a1 : V ≤ n * n + n) (a2 : n = 0 ∨ n * n - n < V) (b1 : W ≤ m * m + m) (b2 : m = 0 ∨ m * m - m < W) (hV : 0 ≤ V) (hW : 0 ≤ W)
    (h : nb (1073741824 * (W - V)) (20 * V + 3221225472 * m + 4294967296)) : nb (m - n) 32768 := by
  have key : 20 * V ≤ 20 * (n * n) + 20 * n := by omega
  have nn : n * n ≤ 2199023255552 * n := Int.mul_le_mul_of_nonneg_right n1 n0
  unfold nb at *
  constructor
  · rcases Int.lt_or_le (m - n) (-32768) with g | g
    · exfalso
      -- n > m + 32768
      have h2 : n * n - n < V := by omega
      have e1 : n * n - m * m = (n - m) * (n + m) := by grind
      by_cases c : 9 * n ≤ 10 * m
      · have p : 32769 * (n + m) ≤ (n - m) * (n + m) := Int.mul_le_mul_of_nonneg_right (by omega) (by omega)
        omega
      · have p : (n - m) * n ≤ (n - m) * (n + m) := Int.mul_le_mul_of_nonneg_left (by omega) (by omega)
        have p2 : n * n ≤ 10 * ((n - m) * n) := by
          have : n * n ≤ (10 * (n - m)) * n := Int.mul_le_mul_of_nonneg_right (by omega) n0
          have e : (10 * (n - m)) * n = 10 * ((n - m) * n) := by grind
          omega
        have p3 : 32769 * n ≤ n * n := Int.mul_le_mul_of_nonneg_right (by omega) n0
        omega
    · exact g
  · rcases Int.lt_or_le 32768 (m - n) with g | g
    · exfalso
      have h2 : m * m - m < W := by omega
      have p : (n + 32769) * m ≤ m * m := Int.mul_le_mul_of_nonneg_right (by omega) m0
      have p2 : (n + 32769) * m = n * m + 32769 * m := by grind
      have p3 : n * (n + 32769) ≤ n * m := Int.mul_le_mul_of_nonneg_left (by omega) n0
      have p4 : n * (n + 32769) = n * n + 32769 * n := by grind
      omega
    · exact g
end Go.Proofs.Ytaebmggjhjobnaa

/- The matrix of a product, a vector turned twice. Plain. -/
namespace Go.Proofs.Ytaebmggjhjobnaa
open Go.Lr Go.Tg
set_option linter.unusedVariables false
set_option linter.unusedSimpArgs false

/-- The matrix of four numbers that are not too large. -/
theorem rm_eqS {s0 s1 s2 s3 : Int} (h0 : sm s0) (h1 : sm s1) (h2 : sm s2) (h3 : sm s3) :
    rm0 s0 s1 s2 s3 = rndV (mx0 s0 s1 s2 s3) 30 ∧ rm1 s0 s1 s2 s3 = rndV (mx1 s0 s1 s2 s3) 30 ∧ rm2 s0 s1 s2 s3 = rndV (mx2 s0 s1 s2 s3) 30 ∧ rm3 s0 s1 s2 s3 = rndV (mx3 s0 s1 s2 s3) 30 ∧ rm4 s0 s1 s2 s3 = rndV (mx4 s0 s1 s2 s3) 30 ∧ rm5 s0 s1 s2 s3 = rndV (mx5 s0 s1 s2 s3) 30 ∧ rm6 s0 s1 s2 s3 = rndV (mx6 s0 s1 s2 s3) 30 ∧ rm7 s0 s1 s2 s3 = rndV (mx7 s0 s1 s2 s3) 30 ∧ rm8 s0 s1 s2 s3 = rndV (mx8 s0 s1 s2 s3) 30 ∧ ∀ h, rmF h s0 s1 s2 s3 = h := by
  have w0 := wneg h0.inS
  have e0 : s1V 1 1 (-1) (-1) s0 s1 s2 s3 = rndV (mx0 s0 s1 s2 s3) 30 ∧ s1H 1 1 (-1) (-1) s0 s1 s2 s3 = false := by
    unfold s1V s1H
    rw [wone h0.inS, wone h1.inS, wmone h2.inS, wmone h3.inS]
    exact dotO h0 h1 h2 h3 h0 h1 h2.neg h3.neg (by unfold mx0; grind)
  have e1 : t1V s1 s2 (wr IntKind.i64 (0 - s0)) s3 = rndV (mx1 s0 s1 s2 s3) 30 ∧ t1H s1 s2 (wr IntKind.i64 (0 - s0)) s3 = false := by
    unfold t1V t1H
    rw [w0]
    exact dotO h1 h1 h0.neg h0.neg h2 h2 h3 h3 (by unfold mx1; grind)
  have e2 : t1V s1 s3 s0 s2 = rndV (mx2 s0 s1 s2 s3) 30 ∧ t1H s1 s3 s0 s2 = false := by
    unfold t1V t1H
    exact dotO h1 h1 h0 h0 h3 h3 h2 h2 (by unfold mx2; grind)
  have e3 : t1V s1 s2 s0 s3 = rndV (mx3 s0 s1 s2 s3) 30 ∧ t1H s1 s2 s0 s3 = false := by
    unfold t1V t1H
    exact dotO h1 h1 h0 h0 h2 h2 h3 h3 (by unfold mx3; grind)
  have e4 : s1V 1 (-1) 1 (-1) s0 s1 s2 s3 = rndV (mx4 s0 s1 s2 s3) 30 ∧ s1H 1 (-1) 1 (-1) s0 s1 s2 s3 = false := by
    unfold s1V s1H
    rw [wone h0.inS, wmone h1.inS, wone h2.inS, wmone h3.inS]
    exact dotO h0 h1 h2 h3 h0 h1.neg h2 h3.neg (by unfold mx4; grind)
  have e5 : t1V s2 s3 (wr IntKind.i64 (0 - s0)) s1 = rndV (mx5 s0 s1 s2 s3) 30 ∧ t1H s2 s3 (wr IntKind.i64 (0 - s0)) s1 = false := by
    unfold t1V t1H
    rw [w0]
    exact dotO h2 h2 h0.neg h0.neg h3 h3 h1 h1 (by unfold mx5; grind)
  have e6 : t1V s1 s3 (wr IntKind.i64 (0 - s0)) s2 = rndV (mx6 s0 s1 s2 s3) 30 ∧ t1H s1 s3 (wr IntKind.i64 (0 - s0)) s2 = false := by
    unfold t1V t1H
    rw [w0]
    exact dotO h1 h1 h0.neg h0.neg h3 h3 h2 h2 (by unfold mx6; grind)
  have e7 : t1V s2 s3 s0 s1 = rndV (mx7 s0 s1 s2 s3) 30 ∧ t1H s2 s3 s0 s1 = false := by
    unfold t1V t1H
    exact dotO h2 h2 h0 h0 h3 h3 h1 h1 (by unfold mx7; grind)
  have e8 : s1V 1 (-1) (-1) 1 s0 s1 s2 s3 = rndV (mx8 s0 s1 s2 s3) 30 ∧ s1H 1 (-1) (-1) 1 s0 s1 s2 s3 = false := by
    unfold s1V s1H
    rw [wone h0.inS, wmone h1.inS, wmone h2.inS, wone h3.inS]
    exact dotO h0 h1 h2 h3 h0 h1.neg h2.neg h3 (by unfold mx8; grind)
  refine ⟨e0.1, e1.1, e2.1, e3.1, e4.1, e5.1, e6.1, e7.1, e8.1, fun h => ?_⟩
  unfold rmF
  rw [e0.2, e1.2, e2.2, e3.2, e4.2, e5.2, e6.2, e7.2, e8.2]
  simp
theorem dq0 {x0 x1 x2 x3 r0 r1 r2 r3 e0 e1 e2 e3 : Int} (hx0 : nb x0 1152921508365000000) (hx1 : nb x1 1152921508365000000) (hx2 : nb x2 1152921508365000000) (hx3 : nb x3 1152921508365000000) (g0 : 2 * (r0 * 1073741824 - x0) = e0) (g1 : 2 * (r1 * 1073741824 - x1) = e1) (g2 : 2 * (r2 * 1073741824 - x2) = e2) (g3 : 2 * (r3 * 1073741824 - x3) = e3) (he0 : nb e0 1073741824) (he1 : nb e1 1073741824) (he2 : nb e2 1073741824) (he3 : nb e3 1073741824) :
    nb (4 * (1152921504606846976 * mx0 r0 r1 r2 r3 - mx0 x0 x1 x2 x3)) 21044980667851464673285111808 := by
  have e : 4 * (1152921504606846976 * mx0 r0 r1 r2 r3 - mx0 x0 x1 x2 x3) = 4 * (x0 * e0 + x1 * e1 - x2 * e2 - x3 * e3) + (e0 * e0 + e1 * e1 - e2 * e2 - e3 * e3) := by
    subst g0 g1 g2 g3; unfold mx0; grind
  rw [e]; clear e g0 g1 g2 g3
  have t0 := he0.mul he0
  have t1 := he1.mul he1
  have t2 := he2.mul he2
  have t3 := he3.mul he3
  have t4 := hx0.mul he0
  have t5 := hx1.mul he1
  have t6 := hx2.mul he2
  have t7 := hx3.mul he3
  generalize e0 * e0 = T0 at *
  generalize e1 * e1 = T1 at *
  generalize e2 * e2 = T2 at *
  generalize e3 * e3 = T3 at *
  generalize x0 * e0 = T4 at *
  generalize x1 * e1 = T5 at *
  generalize x2 * e2 = T6 at *
  generalize x3 * e3 = T7 at *
  unfold nb at *; omega
theorem dq1 {x0 x1 x2 x3 r0 r1 r2 r3 e0 e1 e2 e3 : Int} (hx0 : nb x0 1152921508365000000) (hx1 : nb x1 1152921508365000000) (hx2 : nb x2 1152921508365000000) (hx3 : nb x3 1152921508365000000) (g0 : 2 * (r0 * 1073741824 - x0) = e0) (g1 : 2 * (r1 * 1073741824 - x1) = e1) (g2 : 2 * (r2 * 1073741824 - x2) = e2) (g3 : 2 * (r3 * 1073741824 - x3) = e3) (he0 : nb e0 1073741824) (he1 : nb e1 1073741824) (he2 : nb e2 1073741824) (he3 : nb e3 1073741824) :
    nb (4 * (1152921504606846976 * mx1 r0 r1 r2 r3 - mx1 x0 x1 x2 x3)) 21044980667851464673285111808 := by
  have e : 4 * (1152921504606846976 * mx1 r0 r1 r2 r3 - mx1 x0 x1 x2 x3) = 4 * (x1 * e2 + x2 * e1 - x0 * e3 - x3 * e0) + 2 * (e1 * e2 - e0 * e3) := by
    subst g0 g1 g2 g3; unfold mx1; grind
  rw [e]; clear e g0 g1 g2 g3
  have t0 := he0.mul he3
  have t1 := he1.mul he2
  have t2 := hx0.mul he3
  have t3 := hx1.mul he2
  have t4 := hx2.mul he1
  have t5 := hx3.mul he0
  generalize e0 * e3 = T0 at *
  generalize e1 * e2 = T1 at *
  generalize x0 * e3 = T2 at *
  generalize x1 * e2 = T3 at *
  generalize x2 * e1 = T4 at *
  generalize x3 * e0 = T5 at *
  unfold nb at *; omega
theorem dq2 {x0 x1 x2 x3 r0 r1 r2 r3 e0 e1 e2 e3 : Int} (hx0 : nb x0 1152921508365000000) (hx1 : nb x1 1152921508365000000) (hx2 : nb x2 1152921508365000000) (hx3 : nb x3 1152921508365000000) (g0 : 2 * (r0 * 1073741824 - x0) = e0) (g1 : 2 * (r1 * 1073741824 - x1) = e1) (g2 : 2 * (r2 * 1073741824 - x2) = e2) (g3 : 2 * (r3 * 1073741824 - x3) = e3) (he0 : nb e0 1073741824) (he1 : nb e1 1073741824) (he2 : nb e2 1073741824) (he3 : nb e3 1073741824) :
    nb (4 * (1152921504606846976 * mx2 r0 r1 r2 r3 - mx2 x0 x1 x2 x3)) 21044980667851464673285111808 := by
  have e : 4 * (1152921504606846976 * mx2 r0 r1 r2 r3 - mx2 x0 x1 x2 x3) = 4 * (x1 * e3 + x3 * e1 + x0 * e2 + x2 * e0) + 2 * (e1 * e3 + e0 * e2) := by
    subst g0 g1 g2 g3; unfold mx2; grind
  rw [e]; clear e g0 g1 g2 g3
  have t0 := he0.mul he2
  have t1 := he1.mul he3
  have t2 := hx0.mul he2
  have t3 := hx1.mul he3
  have t4 := hx2.mul he0
  have t5 := hx3.mul he1
  generalize e0 * e2 = T0 at *
  generalize e1 * e3 = T1 at *
  generalize x0 * e2 = T2 at *
  generalize x1 * e3 = T3 at *
  generalize x2 * e0 = T4 at *
  generalize x3 * e1 = T5 at *
  unfold nb at *; omega
theorem dq3 {x0 x1 x2 x3 r0 r1 r2 r3 e0 e1 e2 e3 : Int} (hx0 : nb x0 1152921508365000000) (hx1 : nb x1 1152921508365000000) (hx2 : nb x2 1152921508365000000) (hx3 : nb x3 1152921508365000000) (g0 : 2 * (r0 * 1073741824 - x0) = e0) (g1 : 2 * (r1 * 1073741824 - x1) = e1) (g2 : 2 * (r2 * 1073741824 - x2) = e2) (g3 : 2 * (r3 * 1073741824 - x3) = e3) (he0 : nb e0 1073741824) (he1 : nb e1 1073741824) (he2 : nb e2 1073741824) (he3 : nb e3 1073741824) :
    nb (4 * (1152921504606846976 * mx3 r0 r1 r2 r3 - mx3 x0 x1 x2 x3)) 21044980667851464673285111808 := by
  have e : 4 * (1152921504606846976 * mx3 r0 r1 r2 r3 - mx3 x0 x1 x2 x3) = 4 * (x1 * e2 + x2 * e1 + x0 * e3 + x3 * e0) + 2 * (e1 * e2 + e0 * e3) := by
    subst g0 g1 g2 g3; unfold mx3; grind
  rw [e]; clear e g0 g1 g2 g3
  have t0 := he0.mul he3
  have t1 := he1.mul he2
  have t2 := hx0.mul he3
  have t3 := hx1.mul he2
  have t4 := hx2.mul he1
  have t5 := hx3.mul he0
  generalize e0 * e3 = T0 at *
  generalize e1 * e2 = T1 at *
  generalize x0 * e3 = T2 at *
  generalize x1 * e2 = T3 at *
  generalize x2 * e1 = T4 at *
  generalize x3 * e0 = T5 at *
  unfold nb at *; omega
theorem dq4 {x0 x1 x2 x3 r0 r1 r2 r3 e0 e1 e2 e3 : Int} (hx0 : nb x0 1152921508365000000) (hx1 : nb x1 1152921508365000000) (hx2 : nb x2 1152921508365000000) (hx3 : nb x3 1152921508365000000) (g0 : 2 * (r0 * 1073741824 - x0) = e0) (g1 : 2 * (r1 * 1073741824 - x1) = e1) (g2 : 2 * (r2 * 1073741824 - x2) = e2) (g3 : 2 * (r3 * 1073741824 - x3) = e3) (he0 : nb e0 1073741824) (he1 : nb e1 1073741824) (he2 : nb e2 1073741824) (he3 : nb e3 1073741824) :
    nb (4 * (1152921504606846976 * mx4 r0 r1 r2 r3 - mx4 x0 x1 x2 x3)) 21044980667851464673285111808 := by
  have e : 4 * (1152921504606846976 * mx4 r0 r1 r2 r3 - mx4 x0 x1 x2 x3) = 4 * (x0 * e0 - x1 * e1 + x2 * e2 - x3 * e3) + (e0 * e0 - e1 * e1 + e2 * e2 - e3 * e3) := by
    subst g0 g1 g2 g3; unfold mx4; grind
  rw [e]; clear e g0 g1 g2 g3
  have t0 := he0.mul he0
  have t1 := he1.mul he1
  have t2 := he2.mul he2
  have t3 := he3.mul he3
  have t4 := hx0.mul he0
  have t5 := hx1.mul he1
  have t6 := hx2.mul he2
  have t7 := hx3.mul he3
  generalize e0 * e0 = T0 at *
  generalize e1 * e1 = T1 at *
  generalize e2 * e2 = T2 at *
  generalize e3 * e3 = T3 at *
  generalize x0 * e0 = T4 at *
  generalize x1 * e1 = T5 at *
  generalize x2 * e2 = T6 at *
  generalize x3 * e3 = T7 at *
  unfold nb at *; omega
theorem dq5 {x0 x1 x2 x3 r0 r1 r2 r3 e0 e1 e2 e3 : Int} (hx0 : nb x0 1152921508365000000) (hx1 : nb x1 1152921508365000000) (hx2 : nb x2 1152921508365000000) (hx3 : nb x3 1152921508365000000) (g0 : 2 * (r0 * 1073741824 - x0) = e0) (g1 : 2 * (r1 * 1073741824 - x1) = e1) (g2 : 2 * (r2 * 1073741824 - x2) = e2) (g3 : 2 * (r3 * 1073741824 - x3) = e3) (he0 : nb e0 1073741824) (he1 : nb e1 1073741824) (he2 : nb e2 1073741824) (he3 : nb e3 1073741824) :
    nb (4 * (1152921504606846976 * mx5 r0 r1 r2 r3 - mx5 x0 x1 x2 x3)) 21044980667851464673285111808 := by
  have e : 4 * (1152921504606846976 * mx5 r0 r1 r2 r3 - mx5 x0 x1 x2 x3) = 4 * (x2 * e3 + x3 * e2 - x0 * e1 - x1 * e0) + 2 * (e2 * e3 - e0 * e1) := by
    subst g0 g1 g2 g3; unfold mx5; grind
  rw [e]; clear e g0 g1 g2 g3
  have t0 := he0.mul he1
  have t1 := he2.mul he3
  have t2 := hx0.mul he1
  have t3 := hx1.mul he0
  have t4 := hx2.mul he3
  have t5 := hx3.mul he2
  generalize e0 * e1 = T0 at *
  generalize e2 * e3 = T1 at *
  generalize x0 * e1 = T2 at *
  generalize x1 * e0 = T3 at *
  generalize x2 * e3 = T4 at *
  generalize x3 * e2 = T5 at *
  unfold nb at *; omega
theorem dq6 {x0 x1 x2 x3 r0 r1 r2 r3 e0 e1 e2 e3 : Int} (hx0 : nb x0 1152921508365000000) (hx1 : nb x1 1152921508365000000) (hx2 : nb x2 1152921508365000000) (hx3 : nb x3 1152921508365000000) (g0 : 2 * (r0 * 1073741824 - x0) = e0) (g1 : 2 * (r1 * 1073741824 - x1) = e1) (g2 : 2 * (r2 * 1073741824 - x2) = e2) (g3 : 2 * (r3 * 1073741824 - x3) = e3) (he0 : nb e0 1073741824) (he1 : nb e1 1073741824) (he2 : nb e2 1073741824) (he3 : nb e3 1073741824) :
    nb (4 * (1152921504606846976 * mx6 r0 r1 r2 r3 - mx6 x0 x1 x2 x3)) 21044980667851464673285111808 := by
  have e : 4 * (1152921504606846976 * mx6 r0 r1 r2 r3 - mx6 x0 x1 x2 x3) = 4 * (x1 * e3 + x3 * e1 - x0 * e2 - x2 * e0) + 2 * (e1 * e3 - e0 * e2) := by
    subst g0 g1 g2 g3; unfold mx6; grind
  rw [e]; clear e g0 g1 g2 g3
  have t0 := he0.mul he2
  have t1 := he1.mul he3
  have t2 := hx0.mul he2
  have t3 := hx1.mul he3
  have t4 := hx2.mul he0
  have t5 := hx3.mul he1
  generalize e0 * e2 = T0 at *
  generalize e1 * e3 = T1 at *
  generalize x0 * e2 = T2 at *
  generalize x1 * e3 = T3 at *
  generalize x2 * e0 = T4 at *
  generalize x3 * e1 = T5 at *
  unfold nb at *; omega
theorem dq7 {x0 x1 x2 x3 r0 r1 r2 r3 e0 e1 e2 e3 : Int} (hx0 : nb x0 1152921508365000000) (hx1 : nb x1 1152921508365000000) (hx2 : nb x2 1152921508365000000) (hx3 : nb x3 1152921508365000000) (g0 : 2 * (r0 * 1073741824 - x0) = e0) (g1 : 2 * (r1 * 1073741824 - x1) = e1) (g2 : 2 * (r2 * 1073741824 - x2) = e2) (g3 : 2 * (r3 * 1073741824 - x3) = e3) (he0 : nb e0 1073741824) (he1 : nb e1 1073741824) (he2 : nb e2 1073741824) (he3 : nb e3 1073741824) :
    nb (4 * (1152921504606846976 * mx7 r0 r1 r2 r3 - mx7 x0 x1 x2 x3)) 21044980667851464673285111808 := by
  have e : 4 * (1152921504606846976 * mx7 r0 r1 r2 r3 - mx7 x0 x1 x2 x3) = 4 * (x2 * e3 + x3 * e2 + x0 * e1 + x1 * e0) + 2 * (e2 * e3 + e0 * e1) := by
    subst g0 g1 g2 g3; unfold mx7; grind
  rw [e]; clear e g0 g1 g2 g3
  have t0 := he0.mul he1
  have t1 := he2.mul he3
  have t2 := hx0.mul he1
  have t3 := hx1.mul he0
  have t4 := hx2.mul he3
  have t5 := hx3.mul he2
  generalize e0 * e1 = T0 at *
  generalize e2 * e3 = T1 at *
  generalize x0 * e1 = T2 at *
  generalize x1 * e0 = T3 at *
  generalize x2 * e3 = T4 at *
  generalize x3 * e2 = T5 at *
  unfold nb at *; omega
theorem dq8 {x0 x1 x2 x3 r0 r1 r2 r3 e0 e1 e2 e3 : Int} (hx0 : nb x0 1152921508365000000) (hx1 : nb x1 1152921508365000000) (hx2 : nb x2 1152921508365000000) (hx3 : nb x3 1152921508365000000) (g0 : 2 * (r0 * 1073741824 - x0) = e0) (g1 : 2 * (r1 * 1073741824 - x1) = e1) (g2 : 2 * (r2 * 1073741824 - x2) = e2) (g3 : 2 * (r3 * 1073741824 - x3) = e3) (he0 : nb e0 1073741824) (he1 : nb e1 1073741824) (he2 : nb e2 1073741824) (he3 : nb e3 1073741824) :
    nb (4 * (1152921504606846976 * mx8 r0 r1 r2 r3 - mx8 x0 x1 x2 x3)) 21044980667851464673285111808 := by
  have e : 4 * (1152921504606846976 * mx8 r0 r1 r2 r3 - mx8 x0 x1 x2 x3) = 4 * (x0 * e0 - x1 * e1 - x2 * e2 + x3 * e3) + (e0 * e0 - e1 * e1 - e2 * e2 + e3 * e3) := by
    subst g0 g1 g2 g3; unfold mx8; grind
  rw [e]; clear e g0 g1 g2 g3
  have t0 := he0.mul he0
  have t1 := he1.mul he1
  have t2 := he2.mul he2
  have t3 := he3.mul he3
  have t4 := hx0.mul he0
  have t5 := hx1.mul he1
  have t6 := hx2.mul he2
  have t7 := hx3.mul he3
  generalize e0 * e0 = T0 at *
  generalize e1 * e1 = T1 at *
  generalize e2 * e2 = T2 at *
  generalize e3 * e3 = T3 at *
  generalize x0 * e0 = T4 at *
  generalize x1 * e1 = T5 at *
  generalize x2 * e2 = T6 at *
  generalize x3 * e3 = T7 at *
  unfold nb at *; omega
theorem am2 (a b : Int) : nb (2 * (a * b)) (a * a + b * b) := by
  have h1 := sqnn0 (a - b)
  have h2 := sqnn0 (a + b)
  have e1 : (a - b) * (a - b) = a * a - 2 * (a * b) + b * b := by grind
  have e2 : (a + b) * (a + b) = a * a + 2 * (a * b) + b * b := by grind
  unfold nb; omega
/-- The numbers of an exact product. -/
theorem q0_bd {a0 a1 a2 a3 b0 b1 b2 b3 : Int} (ha : n4 a0 a1 a2 a3 ≤ 1152921508365000000) (hb : n4 b0 b1 b2 b3 ≤ 1152921508365000000) : nb (q0 a0 a1 a2 a3 b0 b1 b2 b3) 1152921508365000000 := by
  have t0 := am2 a0 b0
  have t1 := am2 a1 b1
  have t2 := am2 a2 b2
  have t3 := am2 a3 b3
  unfold n4 at ha hb; unfold q0 nb at *
  generalize a0 * b0 = T0 at *
  generalize a1 * b1 = T1 at *
  generalize a2 * b2 = T2 at *
  generalize a3 * b3 = T3 at *
  generalize a0 * a0 = A0 at *
  generalize a1 * a1 = A1 at *
  generalize a2 * a2 = A2 at *
  generalize a3 * a3 = A3 at *
  generalize b0 * b0 = B0 at *
  generalize b1 * b1 = B1 at *
  generalize b2 * b2 = B2 at *
  generalize b3 * b3 = B3 at *
  omega
theorem q1_bd {a0 a1 a2 a3 b0 b1 b2 b3 : Int} (ha : n4 a0 a1 a2 a3 ≤ 1152921508365000000) (hb : n4 b0 b1 b2 b3 ≤ 1152921508365000000) : nb (q1 a0 a1 a2 a3 b0 b1 b2 b3) 1152921508365000000 := by
  have t0 := am2 a0 b1
  have t1 := am2 a1 b0
  have t2 := am2 a2 b3
  have t3 := am2 a3 b2
  unfold n4 at ha hb; unfold q1 nb at *
  generalize a0 * b1 = T0 at *
  generalize a1 * b0 = T1 at *
  generalize a2 * b3 = T2 at *
  generalize a3 * b2 = T3 at *
  generalize a0 * a0 = A0 at *
  generalize a1 * a1 = A1 at *
  generalize a2 * a2 = A2 at *
  generalize a3 * a3 = A3 at *
  generalize b0 * b0 = B0 at *
  generalize b1 * b1 = B1 at *
  generalize b2 * b2 = B2 at *
  generalize b3 * b3 = B3 at *
  omega
theorem q2_bd {a0 a1 a2 a3 b0 b1 b2 b3 : Int} (ha : n4 a0 a1 a2 a3 ≤ 1152921508365000000) (hb : n4 b0 b1 b2 b3 ≤ 1152921508365000000) : nb (q2 a0 a1 a2 a3 b0 b1 b2 b3) 1152921508365000000 := by
  have t0 := am2 a0 b2
  have t1 := am2 a1 b3
  have t2 := am2 a2 b0
  have t3 := am2 a3 b1
  unfold n4 at ha hb; unfold q2 nb at *
  generalize a0 * b2 = T0 at *
  generalize a1 * b3 = T1 at *
  generalize a2 * b0 = T2 at *
  generalize a3 * b1 = T3 at *
  generalize a0 * a0 = A0 at *
  generalize a1 * a1 = A1 at *
  generalize a2 * a2 = A2 at *
  generalize a3 * a3 = A3 at *
  generalize b0 * b0 = B0 at *
  generalize b1 * b1 = B1 at *
  generalize b2 * b2 = B2 at *
  generalize b3 * b3 = B3 at *
  omega
theorem q3_bd {a0 a1 a2 a3 b0 b1 b2 b3 : Int} (ha : n4 a0 a1 a2 a3 ≤ 1152921508365000000) (hb : n4 b0 b1 b2 b3 ≤ 1152921508365000000) : nb (q3 a0 a1 a2 a3 b0 b1 b2 b3) 1152921508365000000 := by
  have t0 := am2 a0 b3
  have t1 := am2 a1 b2
  have t2 := am2 a2 b1
  have t3 := am2 a3 b0
  unfold n4 at ha hb; unfold q3 nb at *
  generalize a0 * b3 = T0 at *
  generalize a1 * b2 = T1 at *
  generalize a2 * b1 = T2 at *
  generalize a3 * b0 = T3 at *
  generalize a0 * a0 = A0 at *
  generalize a1 * a1 = A1 at *
  generalize a2 * a2 = A2 at *
  generalize a3 * a3 = A3 at *
  generalize b0 * b0 = B0 at *
  generalize b1 * b1 = B1 at *
  generalize b2 * b2 = B2 at *
  generalize b3 * b3 = B3 at *
  omega
/-- The matrix of an exact product is the product of the matrices. -/
theorem mxm0 (a0 a1 a2 a3 b0 b1 b2 b3 : Int) : mx0 a0 a1 a2 a3 * mx0 b0 b1 b2 b3 + mx1 a0 a1 a2 a3 * mx3 b0 b1 b2 b3 + mx2 a0 a1 a2 a3 * mx6 b0 b1 b2 b3 = mx0 (q0 a0 a1 a2 a3 b0 b1 b2 b3) (q1 a0 a1 a2 a3 b0 b1 b2 b3) (q2 a0 a1 a2 a3 b0 b1 b2 b3) (q3 a0 a1 a2 a3 b0 b1 b2 b3) := by
  unfold mx0 mx1 mx2 mx3 mx6 q0 q1 q2 q3; grind
theorem mxm1 (a0 a1 a2 a3 b0 b1 b2 b3 : Int) : mx0 a0 a1 a2 a3 * mx1 b0 b1 b2 b3 + mx1 a0 a1 a2 a3 * mx4 b0 b1 b2 b3 + mx2 a0 a1 a2 a3 * mx7 b0 b1 b2 b3 = mx1 (q0 a0 a1 a2 a3 b0 b1 b2 b3) (q1 a0 a1 a2 a3 b0 b1 b2 b3) (q2 a0 a1 a2 a3 b0 b1 b2 b3) (q3 a0 a1 a2 a3 b0 b1 b2 b3) := by
  unfold mx0 mx1 mx2 mx4 mx7 q0 q1 q2 q3; grind
theorem mxm2 (a0 a1 a2 a3 b0 b1 b2 b3 : Int) : mx0 a0 a1 a2 a3 * mx2 b0 b1 b2 b3 + mx1 a0 a1 a2 a3 * mx5 b0 b1 b2 b3 + mx2 a0 a1 a2 a3 * mx8 b0 b1 b2 b3 = mx2 (q0 a0 a1 a2 a3 b0 b1 b2 b3) (q1 a0 a1 a2 a3 b0 b1 b2 b3) (q2 a0 a1 a2 a3 b0 b1 b2 b3) (q3 a0 a1 a2 a3 b0 b1 b2 b3) := by
  unfold mx0 mx1 mx2 mx5 mx8 q0 q1 q2 q3; grind
theorem mxm3 (a0 a1 a2 a3 b0 b1 b2 b3 : Int) : mx3 a0 a1 a2 a3 * mx0 b0 b1 b2 b3 + mx4 a0 a1 a2 a3 * mx3 b0 b1 b2 b3 + mx5 a0 a1 a2 a3 * mx6 b0 b1 b2 b3 = mx3 (q0 a0 a1 a2 a3 b0 b1 b2 b3) (q1 a0 a1 a2 a3 b0 b1 b2 b3) (q2 a0 a1 a2 a3 b0 b1 b2 b3) (q3 a0 a1 a2 a3 b0 b1 b2 b3) := by
  unfold mx0 mx3 mx4 mx5 mx6 q0 q1 q2 q3; grind
theorem mxm4 (a0 a1 a2 a3 b0 b1 b2 b3 : Int) : mx3 a0 a1 a2 a3 * mx1 b0 b1 b2 b3 + mx4 a0 a1 a2 a3 * mx4 b0 b1 b2 b3 + mx5 a0 a1 a2 a3 * mx7 b0 b1 b2 b3 = mx4 (q0 a0 a1 a2 a3 b0 b1 b2 b3) (q1 a0 a1 a2 a3 b0 b1 b2 b3) (q2 a0 a1 a2 a3 b0 b1 b2 b3) (q3 a0 a1 a2 a3 b0 b1 b2 b3) := by
  unfold mx1 mx3 mx4 mx5 mx7 q0 q1 q2 q3; grind
theorem mxm5 (a0 a1 a2 a3 b0 b1 b2 b3 : Int) : mx3 a0 a1 a2 a3 * mx2 b0 b1 b2 b3 + mx4 a0 a1 a2 a3 * mx5 b0 b1 b2 b3 + mx5 a0 a1 a2 a3 * mx8 b0 b1 b2 b3 = mx5 (q0 a0 a1 a2 a3 b0 b1 b2 b3) (q1 a0 a1 a2 a3 b0 b1 b2 b3) (q2 a0 a1 a2 a3 b0 b1 b2 b3) (q3 a0 a1 a2 a3 b0 b1 b2 b3) := by
  unfold mx2 mx3 mx4 mx5 mx8 q0 q1 q2 q3; grind
theorem mxm6 (a0 a1 a2 a3 b0 b1 b2 b3 : Int) : mx6 a0 a1 a2 a3 * mx0 b0 b1 b2 b3 + mx7 a0 a1 a2 a3 * mx3 b0 b1 b2 b3 + mx8 a0 a1 a2 a3 * mx6 b0 b1 b2 b3 = mx6 (q0 a0 a1 a2 a3 b0 b1 b2 b3) (q1 a0 a1 a2 a3 b0 b1 b2 b3) (q2 a0 a1 a2 a3 b0 b1 b2 b3) (q3 a0 a1 a2 a3 b0 b1 b2 b3) := by
  unfold mx0 mx3 mx6 mx7 mx8 q0 q1 q2 q3; grind
theorem mxm7 (a0 a1 a2 a3 b0 b1 b2 b3 : Int) : mx6 a0 a1 a2 a3 * mx1 b0 b1 b2 b3 + mx7 a0 a1 a2 a3 * mx4 b0 b1 b2 b3 + mx8 a0 a1 a2 a3 * mx7 b0 b1 b2 b3 = mx7 (q0 a0 a1 a2 a3 b0 b1 b2 b3) (q1 a0 a1 a2 a3 b0 b1 b2 b3) (q2 a0 a1 a2 a3 b0 b1 b2 b3) (q3 a0 a1 a2 a3 b0 b1 b2 b3) := by
  unfold mx1 mx4 mx6 mx7 mx8 q0 q1 q2 q3; grind
theorem mxm8 (a0 a1 a2 a3 b0 b1 b2 b3 : Int) : mx6 a0 a1 a2 a3 * mx2 b0 b1 b2 b3 + mx7 a0 a1 a2 a3 * mx5 b0 b1 b2 b3 + mx8 a0 a1 a2 a3 * mx8 b0 b1 b2 b3 = mx8 (q0 a0 a1 a2 a3 b0 b1 b2 b3) (q1 a0 a1 a2 a3 b0 b1 b2 b3) (q2 a0 a1 a2 a3 b0 b1 b2 b3) (q3 a0 a1 a2 a3 b0 b1 b2 b3) := by
  unfold mx2 mx5 mx6 mx7 mx8 q0 q1 q2 q3; grind
theorem ent3 {m a b c A B C X M : Int} (hm : nb (2 * (m * 1073741824 - M)) 1073741824) (ea : nb (1152921504606846976 * a - A) 1237940043700000000000000000) (eb : nb (1152921504606846976 * b - B) 1237940043700000000000000000) (ec : nb (1152921504606846976 * c - C) 1237940043700000000000000000) (hX : A + B + C = X) (hd : nb (4 * (1152921504606846976 * M - X)) 21044980667851464673285111808) : nb (1073741824 * m - (a + b + c)) 9663676416 := by
  subst hX
  unfold nb at *; omega
/-- The matrix of a rounded product against the product of the matrices. -/
theorem prodR {a0 a1 a2 a3 b0 b1 b2 b3 r0 r1 r2 r3 : Int} (hp : UnitQ a0 a1 a2 a3) (hq : UnitQ b0 b1 b2 b3) (h0 : nb (2 * (r0 * 1073741824 - q0 a0 a1 a2 a3 b0 b1 b2 b3)) 1073741824) (h1 : nb (2 * (r1 * 1073741824 - q1 a0 a1 a2 a3 b0 b1 b2 b3)) 1073741824) (h2 : nb (2 * (r2 * 1073741824 - q2 a0 a1 a2 a3 b0 b1 b2 b3)) 1073741824) (h3 : nb (2 * (r3 * 1073741824 - q3 a0 a1 a2 a3 b0 b1 b2 b3)) 1073741824) :
    (nb (1073741824 * rm0 r0 r1 r2 r3 - (rm0 a0 a1 a2 a3 * rm0 b0 b1 b2 b3 + rm1 a0 a1 a2 a3 * rm3 b0 b1 b2 b3 + rm2 a0 a1 a2 a3 * rm6 b0 b1 b2 b3)) 9663676416 ∧ nb (1073741824 * rm1 r0 r1 r2 r3 - (rm0 a0 a1 a2 a3 * rm1 b0 b1 b2 b3 + rm1 a0 a1 a2 a3 * rm4 b0 b1 b2 b3 + rm2 a0 a1 a2 a3 * rm7 b0 b1 b2 b3)) 9663676416 ∧ nb (1073741824 * rm2 r0 r1 r2 r3 - (rm0 a0 a1 a2 a3 * rm2 b0 b1 b2 b3 + rm1 a0 a1 a2 a3 * rm5 b0 b1 b2 b3 + rm2 a0 a1 a2 a3 * rm8 b0 b1 b2 b3)) 9663676416 ∧ nb (1073741824 * rm3 r0 r1 r2 r3 - (rm3 a0 a1 a2 a3 * rm0 b0 b1 b2 b3 + rm4 a0 a1 a2 a3 * rm3 b0 b1 b2 b3 + rm5 a0 a1 a2 a3 * rm6 b0 b1 b2 b3)) 9663676416 ∧ nb (1073741824 * rm4 r0 r1 r2 r3 - (rm3 a0 a1 a2 a3 * rm1 b0 b1 b2 b3 + rm4 a0 a1 a2 a3 * rm4 b0 b1 b2 b3 + rm5 a0 a1 a2 a3 * rm7 b0 b1 b2 b3)) 9663676416 ∧ nb (1073741824 * rm5 r0 r1 r2 r3 - (rm3 a0 a1 a2 a3 * rm2 b0 b1 b2 b3 + rm4 a0 a1 a2 a3 * rm5 b0 b1 b2 b3 + rm5 a0 a1 a2 a3 * rm8 b0 b1 b2 b3)) 9663676416 ∧ nb (1073741824 * rm6 r0 r1 r2 r3 - (rm6 a0 a1 a2 a3 * rm0 b0 b1 b2 b3 + rm7 a0 a1 a2 a3 * rm3 b0 b1 b2 b3 + rm8 a0 a1 a2 a3 * rm6 b0 b1 b2 b3)) 9663676416 ∧ nb (1073741824 * rm7 r0 r1 r2 r3 - (rm6 a0 a1 a2 a3 * rm1 b0 b1 b2 b3 + rm7 a0 a1 a2 a3 * rm4 b0 b1 b2 b3 + rm8 a0 a1 a2 a3 * rm7 b0 b1 b2 b3)) 9663676416 ∧ nb (1073741824 * rm8 r0 r1 r2 r3 - (rm6 a0 a1 a2 a3 * rm2 b0 b1 b2 b3 + rm7 a0 a1 a2 a3 * rm5 b0 b1 b2 b3 + rm8 a0 a1 a2 a3 * rm8 b0 b1 b2 b3)) 9663676416) ∧ (sm r0 ∧ sm r1 ∧ sm r2 ∧ sm r3) := by
  have hN : ∀ {s0 s1 s2 s3 : Int}, UnitQ s0 s1 s2 s3 → n4 s0 s1 s2 s3 ≤ 1152921508365000000 := by intro s0 s1 s2 s3 h; have := h.hn; unfold nearU at this; omega
  have x0 := q0_bd (hN hp) (hN hq)
  have x1 := q1_bd (hN hp) (hN hq)
  have x2 := q2_bd (hN hp) (hN hq)
  have x3 := q3_bd (hN hp) (hN hq)
  have s0 : sm r0 := by unfold nb at h0 x0; unfold sm; omega
  have s1 : sm r1 := by unfold nb at h1 x1; unfold sm; omega
  have s2 : sm r2 := by unfold nb at h2 x2; unfold sm; omega
  have s3 : sm r3 := by unfold nb at h3 x3; unfold sm; omega
  obtain ⟨p0, p1, p2, p3, p4, p5, p6, p7, p8, -⟩ := rm_eq hp.ha hp.hb hp.hc hp.hd
  obtain ⟨t0, t1, t2, t3, t4, t5, t6, t7, t8, -⟩ := rm_eq hq.ha hq.hb hq.hc hq.hd
  obtain ⟨v0, v1, v2, v3, v4, v5, v6, v7, v8, -⟩ := rm_eqS s0 s1 s2 s3
  obtain ⟨l0, l1, l2, l3, l4, l5, l6, l7, l8⟩ := mx_le a0 a1 a2 a3
  obtain ⟨k0, k1, k2, k3, k4, k5, k6, k7, k8⟩ := mx_le b0 b1 b2 b3
  rw [p0, p1, p2, p3, p4, p5, p6, p7, p8, t0, t1, t2, t3, t4, t5, t6, t7, t8, v0, v1, v2, v3, v4, v5, v6, v7, v8]
  refine ⟨⟨?_, ?_, ?_, ?_, ?_, ?_, ?_, ?_, ?_⟩, s0, s1, s2, s3⟩
  · exact ent3 (rn30 _) (ent (rn30 _) (rn30 _) (l0.le (hN hp)) (k0.le (hN hq))) (ent (rn30 _) (rn30 _) (l1.le (hN hp)) (k3.le (hN hq))) (ent (rn30 _) (rn30 _) (l2.le (hN hp)) (k6.le (hN hq))) (mxm0 a0 a1 a2 a3 b0 b1 b2 b3) (dq0 x0 x1 x2 x3 rfl rfl rfl rfl h0 h1 h2 h3)
  · exact ent3 (rn30 _) (ent (rn30 _) (rn30 _) (l0.le (hN hp)) (k1.le (hN hq))) (ent (rn30 _) (rn30 _) (l1.le (hN hp)) (k4.le (hN hq))) (ent (rn30 _) (rn30 _) (l2.le (hN hp)) (k7.le (hN hq))) (mxm1 a0 a1 a2 a3 b0 b1 b2 b3) (dq1 x0 x1 x2 x3 rfl rfl rfl rfl h0 h1 h2 h3)
  · exact ent3 (rn30 _) (ent (rn30 _) (rn30 _) (l0.le (hN hp)) (k2.le (hN hq))) (ent (rn30 _) (rn30 _) (l1.le (hN hp)) (k5.le (hN hq))) (ent (rn30 _) (rn30 _) (l2.le (hN hp)) (k8.le (hN hq))) (mxm2 a0 a1 a2 a3 b0 b1 b2 b3) (dq2 x0 x1 x2 x3 rfl rfl rfl rfl h0 h1 h2 h3)
  · exact ent3 (rn30 _) (ent (rn30 _) (rn30 _) (l3.le (hN hp)) (k0.le (hN hq))) (ent (rn30 _) (rn30 _) (l4.le (hN hp)) (k3.le (hN hq))) (ent (rn30 _) (rn30 _) (l5.le (hN hp)) (k6.le (hN hq))) (mxm3 a0 a1 a2 a3 b0 b1 b2 b3) (dq3 x0 x1 x2 x3 rfl rfl rfl rfl h0 h1 h2 h3)
  · exact ent3 (rn30 _) (ent (rn30 _) (rn30 _) (l3.le (hN hp)) (k1.le (hN hq))) (ent (rn30 _) (rn30 _) (l4.le (hN hp)) (k4.le (hN hq))) (ent (rn30 _) (rn30 _) (l5.le (hN hp)) (k7.le (hN hq))) (mxm4 a0 a1 a2 a3 b0 b1 b2 b3) (dq4 x0 x1 x2 x3 rfl rfl rfl rfl h0 h1 h2 h3)
  · exact ent3 (rn30 _) (ent (rn30 _) (rn30 _) (l3.le (hN hp)) (k2.le (hN hq))) (ent (rn30 _) (rn30 _) (l4.le (hN hp)) (k5.le (hN hq))) (ent (rn30 _) (rn30 _) (l5.le (hN hp)) (k8.le (hN hq))) (mxm5 a0 a1 a2 a3 b0 b1 b2 b3) (dq5 x0 x1 x2 x3 rfl rfl rfl rfl h0 h1 h2 h3)
  · exact ent3 (rn30 _) (ent (rn30 _) (rn30 _) (l6.le (hN hp)) (k0.le (hN hq))) (ent (rn30 _) (rn30 _) (l7.le (hN hp)) (k3.le (hN hq))) (ent (rn30 _) (rn30 _) (l8.le (hN hp)) (k6.le (hN hq))) (mxm6 a0 a1 a2 a3 b0 b1 b2 b3) (dq6 x0 x1 x2 x3 rfl rfl rfl rfl h0 h1 h2 h3)
  · exact ent3 (rn30 _) (ent (rn30 _) (rn30 _) (l6.le (hN hp)) (k1.le (hN hq))) (ent (rn30 _) (rn30 _) (l7.le (hN hp)) (k4.le (hN hq))) (ent (rn30 _) (rn30 _) (l8.le (hN hp)) (k7.le (hN hq))) (mxm7 a0 a1 a2 a3 b0 b1 b2 b3) (dq7 x0 x1 x2 x3 rfl rfl rfl rfl h0 h1 h2 h3)
  · exact ent3 (rn30 _) (ent (rn30 _) (rn30 _) (l6.le (hN hp)) (k2.le (hN hq))) (ent (rn30 _) (rn30 _) (l7.le (hN hp)) (k5.le (hN hq))) (ent (rn30 _) (rn30 _) (l8.le (hN hp)) (k8.le (hN hq))) (mxm8 a0 a1 a2 a3 b0 b1 b2 b3) (dq8 x0 x1 x2 x3 rfl rfl rfl rfl h0 h1 h2 h3)
/-- A vector turned by the product, and turned twice. -/
theorem turn1 {r0 r1 r2 p0 p1 p2 q0 q1 q2 q3 q4 q5 q6 q7 q8 v0 v1 v2 w0 w1 w2 y z : Int} (hp0 : nb p0 1073741830) (hp1 : nb p1 1073741830) (hp2 : nb p2 1073741830) (hv0 : nb v0 1099511627776) (hv1 : nb v1 1099511627776) (hv2 : nb v2 1099511627776)
    (h0 : nb (1073741824 * r0 - (p0 * q0 + p1 * q3 + p2 * q6)) 9663676416) (h1 : nb (1073741824 * r1 - (p0 * q1 + p1 * q4 + p2 * q7)) 9663676416) (h2 : nb (1073741824 * r2 - (p0 * q2 + p1 * q5 + p2 * q8)) 9663676416)
    (hw0 : nb (2 * (w0 * 1073741824 - (q0 * v0 + q1 * v1 + q2 * v2))) 1073741824) (hw1 : nb (2 * (w1 * 1073741824 - (q3 * v0 + q4 * v1 + q5 * v2))) 1073741824) (hw2 : nb (2 * (w2 * 1073741824 - (q6 * v0 + q7 * v1 + q8 * v2))) 1073741824)
    (hy : nb (2 * (y * 1073741824 - (p0 * w0 + p1 * w1 + p2 * w2))) 1073741824) (hz : nb (2 * (z * 1073741824 - (r0 * v0 + r1 * v1 + r2 * v2))) 1073741824) : nb (z - y) 32768 := by
  have e : 2 * (1152921504606846976 * (z - y)) = 1073741824 * (2 * (z * 1073741824 - (r0 * v0 + r1 * v1 + r2 * v2))) - 1073741824 * (2 * (y * 1073741824 - (p0 * w0 + p1 * w1 + p2 * w2))) - p0 * (2 * (w0 * 1073741824 - (q0 * v0 + q1 * v1 + q2 * v2))) - p1 * (2 * (w1 * 1073741824 - (q3 * v0 + q4 * v1 + q5 * v2))) - p2 * (2 * (w2 * 1073741824 - (q6 * v0 + q7 * v1 + q8 * v2)))
      + 2 * ((1073741824 * r0 - (p0 * q0 + p1 * q3 + p2 * q6)) * v0) + 2 * ((1073741824 * r1 - (p0 * q1 + p1 * q4 + p2 * q7)) * v1) + 2 * ((1073741824 * r2 - (p0 * q2 + p1 * q5 + p2 * q8)) * v2) := by grind
  have t0 := hp0.mul hw0
  have t1 := hp1.mul hw1
  have t2 := hp2.mul hw2
  have t3 := h0.mul hv0
  have t4 := h1.mul hv1
  have t5 := h2.mul hv2
  generalize p0 * (2 * (w0 * 1073741824 - (q0 * v0 + q1 * v1 + q2 * v2))) = A0 at *
  generalize p1 * (2 * (w1 * 1073741824 - (q3 * v0 + q4 * v1 + q5 * v2))) = A1 at *
  generalize p2 * (2 * (w2 * 1073741824 - (q6 * v0 + q7 * v1 + q8 * v2))) = A2 at *
  generalize (1073741824 * r0 - (p0 * q0 + p1 * q3 + p2 * q6)) * v0 = B0 at *
  generalize (1073741824 * r1 - (p0 * q1 + p1 * q4 + p2 * q7)) * v1 = B1 at *
  generalize (1073741824 * r2 - (p0 * q2 + p1 * q5 + p2 * q8)) * v2 = B2 at *
  generalize 2 * (z * 1073741824 - (r0 * v0 + r1 * v1 + r2 * v2)) = Z at *
  generalize 2 * (y * 1073741824 - (p0 * w0 + p1 * w1 + p2 * w2)) = Y at *
  clear h0 h1 h2 hw0 hw1 hw2
  unfold nb at *
  omega
theorem bd_r {r p0 p1 p2 q0 q1 q2 : Int} (h : nb (1073741824 * r - (p0 * q0 + p1 * q1 + p2 * q2)) 9663676416) (a0 : nb p0 1073741830) (a1 : nb p1 1073741830) (a2 : nb p2 1073741830) (b0 : nb q0 1073741830) (b1 : nb q1 1073741830) (b2 : nb q2 1073741830) : nb r 4294967296 := by
  have t0 := a0.mul b0
  have t1 := a1.mul b1
  have t2 := a2.mul b2
  generalize p0 * q0 = A0 at *
  generalize p1 * q1 = A1 at *
  generalize p2 * q2 = A2 at *
  unfold nb at *; omega
end Go.Proofs.Ytaebmggjhjobnaa

/- Tilts: a vector brought upright. Plain. -/
namespace Go.Proofs.Ytaebmggjhjobnaa
open Go.Lr Go.Tg
set_option linter.unusedVariables false
set_option linter.unusedSimpArgs false

/-- Two passes of a division. -/
theorem two_pass {x t q n m : Int} (h1 : nb (2 * (t * n - x * 1073741824)) n) (h2 : nb (2 * (q * m - t * 1073741824)) m) (hn : 0 ≤ n) : nb (2 * (n * m * q - 1152921504606846976 * x)) (n * m + 1073741824 * n) := by
  have e : 2 * (n * m * q - 1152921504606846976 * x) = n * (2 * (q * m - t * 1073741824)) + 1073741824 * (2 * (t * n - x * 1073741824)) := by grind
  rw [e]
  exact (h2.lmul hn).add (h1.lmul (by omega))
theorem sq_pass {x t n : Int} (h : nb (2 * (t * n - x * 1073741824)) n) (hx : nb x n) (hn : 1 ≤ n) : nb (4 * (n * n * (t * t) - 1152921504606846976 * (x * x))) (5 * 1073741824 * (n * n)) := by
  have e : 4 * (n * n * (t * t) - 1152921504606846976 * (x * x)) = 4 * 1073741824 * (x * (2 * (t * n - x * 1073741824))) + 2 * (t * n - x * 1073741824) * (2 * (t * n - x * 1073741824)) := by grind
  have p := hx.mul h
  have q := h.mul h
  rw [e]
  generalize x * (2 * (t * n - x * 1073741824)) = A at *
  generalize 2 * (t * n - x * 1073741824) * (2 * (t * n - x * 1073741824)) = B at *
  generalize n * n = C at *
  unfold nb at *; omega
theorem m_bounds {n m N : Int} (hn : 17 ≤ n) (hm : 0 ≤ m) (hN0 : n * n - n + 1 ≤ N) (hN1 : N ≤ n * n + n) (h : nb (n * n * (m * m) - 1152921504606846976 * N) (n * n * (m + 4 * 1073741824))) : 1030792152 ≤ m ∧ m ≤ 1116691497 := by
  have p17 : 17 * n ≤ n * n := Int.mul_le_mul_of_nonneg_right hn (by omega)
  have e : n * n * (m + 4 * 1073741824) = n * n * m + 4 * 1073741824 * (n * n) := by grind
  rw [e] at h
  constructor
  · rcases Int.lt_or_le m 1030792152 with g | g
    · exfalso
      have q : m * (m + 1) ≤ 1030792152 * 1030792153 := Int.mul_le_mul (by omega) (by omega) (by omega) (by omega)
      have q2 : n * n * (m * (m + 1)) ≤ n * n * (1030792152 * 1030792153) := Int.mul_le_mul_of_nonneg_left q (by omega)
      have e2 : n * n * (m * (m + 1)) = n * n * (m * m) + n * n * m := by grind
      generalize n * n * (m * (m + 1)) = X1 at *
      generalize n * n * (m * m) = X2 at *
      generalize n * n * m = X3 at *
      generalize n * n = P at *
      unfold nb at h; omega
    · exact g
  · rcases Int.lt_or_le 1116691497 m with g | g
    · exfalso
      have q : 1116691498 * 1116691497 ≤ m * (m - 1) := Int.mul_le_mul (by omega) (by omega) (by omega) (by omega)
      have q2 : n * n * (1116691498 * 1116691497) ≤ n * n * (m * (m - 1)) := Int.mul_le_mul_of_nonneg_left q (by omega)
      have e2 : n * n * (m * (m - 1)) = n * n * (m * m) - n * n * m := by grind
      generalize n * n * (m * (m - 1)) = X1 at *
      generalize n * n * (m * m) = X2 at *
      generalize n * n * m = X3 at *
      generalize n * n = P at *
      unfold nb at h; omega
    · exact g
/-- What Unit makes of three numbers: its two divisors, and what is left. -/
structure TwoPass (x0 x1 x2 q0 q1 q2 n m : Int) : Prop where
  hn : 17 ≤ n
  m0 : 1030792152 ≤ m
  m1 : m ≤ 1116691497
  b0 : nb x0 n
  b1 : nb x1 n
  b2 : nb x2 n
  N0 : n * n - n + 1 ≤ x0 * x0 + x1 * x1 + x2 * x2
  N1 : x0 * x0 + x1 * x1 + x2 * x2 ≤ n * n + n
  d0 : nb (2 * (n * m * q0 - 1152921504606846976 * x0)) (n * m + 1073741824 * n)
  d1 : nb (2 * (n * m * q1 - 1152921504606846976 * x1)) (n * m + 1073741824 * n)
  d2 : nb (2 * (n * m * q2 - 1152921504606846976 * x2)) (n * m + 1073741824 * n)
  hM : nb (n * n * (m * m) - 1152921504606846976 * (x0 * x0 + x1 * x1 + x2 * x2)) (n * n * (m + 4 * 1073741824))
theorem tz (d : Int) : divPV 0 d 30 = 0 := by
  have e : pow2 (Int.toNat 30) = 1073741824 := rfl
  have s0 : satV 0 = 0 := by rw [sat_in (by omega) (by omega)]
  unfold divPV byV
  rw [if_neg (by decide), if_neg (by decide), e, s0, Int.zero_mul]
  by_cases h : satV d = 0
  · rw [if_pos h, if_pos rfl]
  · rw [if_neg h]
    have : divV 0 (satV d) = 0 := by
      unfold divV
      rw [show absV 0 = 0 from rfl, quoR_zero (by unfold absV; split <;> omega)]
      unfold sgn; split <;> rfl
    rw [this]; exact s0
theorem two_ok {x0 x1 x2 : Int} (h0 : 17 ≤ x0) (h0' : x0 ≤ 2147483648) (h1 : nb x1 2147483648) (h2 : nb x2 2147483648) :
    ∃ n m, TwoPass x0 x1 x2 (uV0 x0 x1 x2 0) (uV1 x0 x1 x2 0) (uV2 x0 x1 x2 0) n m ∧ uV3 x0 x1 x2 0 = 0 := by
  have i0 : inS x0 := by unfold inS; omega
  have i1 := inS_nb h1 (by omega)
  have i2 := inS_nb h2 (by omega)
  have i3 : inS 0 := by unfold inS; omega
  have en : n4 x0 x1 x2 0 = x0 * x0 + x1 * x1 + x2 * x2 := by unfold n4; omega
  have t0 := sqnn0 x0
  have t1 := sqnn0 x1
  have t2 := sqnn0 x2
  have g0 : 17 * 17 ≤ x0 * x0 := Int.mul_le_mul (by omega) (by omega) (by omega) (by omega)
  have hN : 1 ≤ n4 x0 x1 x2 0 := by rw [en]; omega
  have l0 : x0 * x0 ≤ 2147483648 * 2147483648 := Int.mul_le_mul (by omega) (by omega) (by omega) (by omega)
  have l1 := (h1.mul h1).2
  have l2 := (h2.mul h2).2
  have hz : uZ x0 x1 x2 0 = false := by
    rcases bool_cases (uZ x0 x1 x2 0) with g | g
    · exfalso
      unfold uZ at g
      rw [satV_S i0, satV_S i1, satV_S i2, satV_S i3] at g
      simp only [Bool.and_eq_true, Bool.and_true, beq_iff_eq] at g
      omega
    · exact g
  unfold uV0 uV1 uV2 uV3
  rw [cond_f hz, cond_f hz, cond_f hz, cond_f hz, satV_S i0, satV_S i1, satV_S i2, satV_S i3]
  unfold uE
  obtain ⟨m0, mA, mB, mC, mD, m1, m2⟩ := hyp4 i0 i1 i2 i3 hN
  obtain ⟨m3, -⟩ := m2 (by rw [en]; omega)
  have p1 := pass1 m0.1 m0.2 mA mB mC mD m1
  obtain ⟨a1, a2, -⟩ := dpass mA.1 mA.2 m0.1 m0.2
  obtain ⟨b1, b2, -⟩ := dpass mB.1 mB.2 m0.1 m0.2
  obtain ⟨c1, c2, -⟩ := dpass mC.1 mC.2 m0.1 m0.2
  rw [tz] at *
  rw [en] at m1 m3
  generalize hypV [x0, x1, x2, 0] = n at *
  obtain ⟨k0, kA, kB, kC, kD, k1, k2⟩ := hyp4 (inS_bd a2) (inS_bd b2) (inS_bd c2) i3 (by omega)
  have le := n4_le a2 b2 c2 (show -1073741824 ≤ (0 : Int) ∧ (0 : Int) ≤ 1073741824 by omega)
  obtain ⟨k3, -⟩ := k2 (by omega)
  obtain ⟨e1, e2, -⟩ := dpass kA.1 kA.2 k0.1 k0.2
  obtain ⟨f1, f2, -⟩ := dpass kB.1 kB.2 k0.1 k0.2
  obtain ⟨g1, g2, -⟩ := dpass kC.1 kC.2 k0.1 k0.2
  generalize divPV x0 n 30 = s0 at *
  generalize divPV x1 n 30 = s1 at *
  generalize divPV x2 n 30 = s2 at *
  have et : n4 s0 s1 s2 0 = s0 * s0 + s1 * s1 + s2 * s2 := by unfold n4; omega
  rw [et] at k1 k3
  generalize hypV [s0, s1, s2, 0] = m at *
  have v0 := sq_pass a1 (show nb x0 n by unfold nb; omega) m0.1
  have v1 := sq_pass b1 (show nb x1 n by unfold nb; omega) m0.1
  have v2 := sq_pass c1 (show nb x2 n by unfold nb; omega) m0.1
  have hM : nb (n * n * (m * m) - 1152921504606846976 * (x0 * x0 + x1 * x1 + x2 * x2)) (n * n * (m + 4 * 1073741824)) := by
    have pn := sqnn0 n
    have r0 : n * n * (m * m - m + 1) ≤ n * n * (s0 * s0 + s1 * s1 + s2 * s2) := Int.mul_le_mul_of_nonneg_left k1 pn
    have r1 : n * n * (s0 * s0 + s1 * s1 + s2 * s2) ≤ n * n * (m * m + m) := Int.mul_le_mul_of_nonneg_left k3 pn
    have q0 : n * n * (m * m - m + 1) = n * n * (m * m) - n * n * m + n * n := by grind
    have q1 : n * n * (m * m + m) = n * n * (m * m) + n * n * m := by grind
    have q2 : n * n * (s0 * s0 + s1 * s1 + s2 * s2) = n * n * (s0 * s0) + n * n * (s1 * s1) + n * n * (s2 * s2) := by grind
    have q3 : n * n * (m + 4 * 1073741824) = n * n * m + 4 * 1073741824 * (n * n) := by grind
    rw [q0, q2] at r0
    rw [q1, q2] at r1
    rw [q3]
    clear q0 q1 q2 q3 m1 m3 k1 k3 l0 l1 l2 p1 le en et hN a1 b1 c1 e1 f1 g1 g0
    generalize n * n * (m * m) = X0 at *
    generalize n * n * m = X1 at *
    generalize n * n * (s0 * s0) = X2 at *
    generalize n * n * (s1 * s1) = X3 at *
    generalize n * n * (s2 * s2) = X4 at *
    generalize n * n = X5 at *
    unfold nb at *
    omega
  obtain ⟨w0, w1⟩ := m_bounds (by omega) (by omega) m1 m3 hM
  exact ⟨n, m, ⟨by omega, w0, w1, by unfold nb; omega, by unfold nb; omega, by unfold nb; omega, m1, m3, two_pass a1 e1 (by omega), two_pass b1 f1 (by omega), two_pass c1 g1 (by omega), hM⟩, tz _⟩
theorem nb_eq {a b k : Int} (h : nb b k) (e : a = b) : nb a k := by rw [e]; exact h
theorem xd_bd {x d n m : Int} (hn : 17 ≤ n) (m0 : 1030792152 ≤ m) (hx : nb x n) (hd : nb (2 * d) (n * m + 1073741824 * n)) : nb (1073741824 * (x * d)) (2 * (n * m * (n * m))) ∧ nb (20 * d) (21 * (n * m)) := by
  have un : 100 * (1073741824 * n) ≤ 105 * (n * m) := by
    have : n * (100 * 1073741824) ≤ n * (105 * m) := Int.mul_le_mul_of_nonneg_left (by omega) (by omega)
    have e1 : n * (105 * m) = 105 * (n * m) := by grind
    have e2 : n * (100 * 1073741824) = 100 * (1073741824 * n) := by grind
    omega
  have hd2 : nb (20 * d) (21 * (n * m)) := by
    have pk : 0 ≤ n * m := Int.mul_nonneg (by omega) (by omega)
    generalize n * m = K at *
    unfold nb at *; omega
  refine ⟨?_, hd2⟩
  have p := hx.mul hd2
  have p2 := p.lmul (show (0 : Int) ≤ 1073741824 by omega)
  have r : (105 * (n * m)) * (n * m) ≥ (100 * (1073741824 * n)) * (n * m) := Int.mul_le_mul_of_nonneg_right un (Int.mul_nonneg (by omega) (by omega))
  have e1 : 1073741824 * (x * (20 * d)) = 20 * (1073741824 * (x * d)) := by grind
  have e2 : 1073741824 * (n * (21 * (n * m))) = 21 * (1073741824 * n * (n * m)) := by grind
  have e3 : (105 * (n * m)) * (n * m) = 105 * (n * m * (n * m)) := by grind
  have e4 : (100 * (1073741824 * n)) * (n * m) = 100 * (1073741824 * n * (n * m)) := by grind
  rw [e1, e2] at p2
  rw [e3, e4] at r
  have pk : 0 ≤ n * m * (n * m) := sqnn0 _
  clear p un hd hd2 hx e1 e2 e3 e4
  generalize 1073741824 * (x * d) = X at *
  generalize 1073741824 * n * (n * m) = Y at *
  generalize n * m * (n * m) = Z at *
  unfold nb at *; omega
theorem dd_bd {c d K : Int} (hc : nb (20 * c) (21 * K)) (hd : nb (20 * d) (21 * K)) : nb (c * d) (2 * (K * K)) := by
  have p := hc.mul hd
  have e1 : 20 * c * (20 * d) = 400 * (c * d) := by grind
  have e2 : 21 * K * (21 * K) = 441 * (K * K) := by grind
  rw [e1, e2] at p
  have := sqnn0 K
  generalize c * d = X at *
  generalize K * K = Y at *
  unfold nb at *; omega
theorem qd_sq {q x d K P : Int} (hP : K * K = P) (hd : d = K * q - 1152921504606846976 * x) (h : nb (1073741824 * (x * d)) (2 * P)) (g : nb (d * d) (2 * P)) : nb (P * (q * q) - 1329227995784915872903807060280344576 * (x * x)) (4 * (1073741824 * P) + 2 * P) := by
  have e : P * (q * q) - 1329227995784915872903807060280344576 * (x * x) = 2 * (1073741824 * (1073741824 * (x * d))) + d * d := by subst hP hd; grind
  rw [e]
  generalize 1073741824 * (x * d) = X at *
  generalize d * d = Y at *
  unfold nb at *; omega
theorem qd_xy {p q x y c d K P : Int} (hP : K * K = P) (hc : c = K * p - 1152921504606846976 * x) (hd : d = K * q - 1152921504606846976 * y) (h0 : nb (1073741824 * (x * d)) (2 * P)) (h1 : nb (1073741824 * (y * c)) (2 * P)) (g : nb (c * d) (2 * P)) : nb (P * (p * q) - 1329227995784915872903807060280344576 * (x * y)) (4 * (1073741824 * P) + 2 * P) := by
  have e : P * (p * q) - 1329227995784915872903807060280344576 * (x * y) = 1073741824 * (1073741824 * (x * d)) + 1073741824 * (1073741824 * (y * c)) + c * d := by subst hP hc hd; grind
  rw [e]
  generalize 1073741824 * (x * d) = X at *
  generalize 1073741824 * (y * c) = Y at *
  generalize c * d = Z at *
  unfold nb at *; omega
theorem mx_two {x0 x1 x2 q0 q1 q2 n m : Int} (h : TwoPass x0 x1 x2 q0 q1 q2 n m) :
    nb (n * m * (n * m) * mx0 q0 q1 q2 0 - 1329227995784915872903807060280344576 * mx0 x0 x1 x2 0) (13 * (1073741824 * (n * m * (n * m)))) ∧ nb (n * m * (n * m) * mx1 q0 q1 q2 0 - 1329227995784915872903807060280344576 * mx1 x0 x1 x2 0) (13 * (1073741824 * (n * m * (n * m)))) ∧ nb (n * m * (n * m) * mx2 q0 q1 q2 0 - 1329227995784915872903807060280344576 * mx2 x0 x1 x2 0) (13 * (1073741824 * (n * m * (n * m)))) ∧ nb (n * m * (n * m) * mx3 q0 q1 q2 0 - 1329227995784915872903807060280344576 * mx3 x0 x1 x2 0) (13 * (1073741824 * (n * m * (n * m)))) ∧ nb (n * m * (n * m) * mx4 q0 q1 q2 0 - 1329227995784915872903807060280344576 * mx4 x0 x1 x2 0) (13 * (1073741824 * (n * m * (n * m)))) ∧ nb (n * m * (n * m) * mx5 q0 q1 q2 0 - 1329227995784915872903807060280344576 * mx5 x0 x1 x2 0) (13 * (1073741824 * (n * m * (n * m)))) ∧ nb (n * m * (n * m) * mx6 q0 q1 q2 0 - 1329227995784915872903807060280344576 * mx6 x0 x1 x2 0) (13 * (1073741824 * (n * m * (n * m)))) ∧ nb (n * m * (n * m) * mx7 q0 q1 q2 0 - 1329227995784915872903807060280344576 * mx7 x0 x1 x2 0) (13 * (1073741824 * (n * m * (n * m)))) ∧ nb (n * m * (n * m) * mx8 q0 q1 q2 0 - 1329227995784915872903807060280344576 * mx8 x0 x1 x2 0) (13 * (1073741824 * (n * m * (n * m)))) := by
  have s00 := (xd_bd h.hn h.m0 h.b0 h.d0).1
  have s01 := (xd_bd h.hn h.m0 h.b0 h.d1).1
  have s02 := (xd_bd h.hn h.m0 h.b0 h.d2).1
  have t0 := (xd_bd h.hn h.m0 h.b0 h.d0).2
  have s10 := (xd_bd h.hn h.m0 h.b1 h.d0).1
  have s11 := (xd_bd h.hn h.m0 h.b1 h.d1).1
  have s12 := (xd_bd h.hn h.m0 h.b1 h.d2).1
  have t1 := (xd_bd h.hn h.m0 h.b1 h.d1).2
  have s20 := (xd_bd h.hn h.m0 h.b2 h.d0).1
  have s21 := (xd_bd h.hn h.m0 h.b2 h.d1).1
  have s22 := (xd_bd h.hn h.m0 h.b2 h.d2).1
  have t2 := (xd_bd h.hn h.m0 h.b2 h.d2).2
  have g00 := dd_bd t0 t0
  have g11 := dd_bd t1 t1
  have g22 := dd_bd t2 t2
  have g01 := dd_bd t0 t1
  have g02 := dd_bd t0 t2
  have g12 := dd_bd t1 t2
  have y0 := qd_sq (q := q0) rfl rfl s00 g00
  have y1 := qd_sq (q := q1) rfl rfl s11 g11
  have y2 := qd_sq (q := q2) rfl rfl s22 g22
  have z01 := qd_xy (p := q0) (q := q1) rfl rfl rfl s01 s10 g01
  have z02 := qd_xy (p := q0) (q := q2) rfl rfl rfl s02 s20 g02
  have z12 := qd_xy (p := q1) (q := q2) rfl rfl rfl s12 s21 g12
  have pk : 0 ≤ n * m * (n * m) := sqnn0 _
  clear s00 s01 s02 s10 s11 s12 s20 s21 s22 t0 t1 t2 g00 g11 g22 g01 g02 g12 h
  unfold mx0 mx1 mx2 mx3 mx4 mx5 mx6 mx7 mx8
  generalize n * m * (n * m) = P at *
  refine ⟨?_, ?_, ?_, ?_, ?_, ?_, ?_, ?_, ?_⟩
  · refine nb_eq (b := (P * (q0 * q0) - 1329227995784915872903807060280344576 * (x0 * x0)) + (P * (q1 * q1) - 1329227995784915872903807060280344576 * (x1 * x1)) - (P * (q2 * q2) - 1329227995784915872903807060280344576 * (x2 * x2))) ?_ (by grind)
    clear z01 z02 z12
    generalize P * (q0 * q0) - 1329227995784915872903807060280344576 * (x0 * x0) = G0 at *
    generalize P * (q1 * q1) - 1329227995784915872903807060280344576 * (x1 * x1) = G1 at *
    generalize P * (q2 * q2) - 1329227995784915872903807060280344576 * (x2 * x2) = G2 at *
    unfold nb at *; omega
  · refine nb_eq (b := 2 * (P * (q1 * q2) - 1329227995784915872903807060280344576 * (x1 * x2))) ?_ (by grind)
    clear y0 y1 y2 z01 z02
    generalize P * (q1 * q2) - 1329227995784915872903807060280344576 * (x1 * x2) = G0 at *
    unfold nb at *; omega
  · refine nb_eq (b := 2 * (P * (q0 * q2) - 1329227995784915872903807060280344576 * (x0 * x2))) ?_ (by grind)
    clear y0 y1 y2 z01 z12
    generalize P * (q0 * q2) - 1329227995784915872903807060280344576 * (x0 * x2) = G0 at *
    unfold nb at *; omega
  · refine nb_eq (b := 2 * (P * (q1 * q2) - 1329227995784915872903807060280344576 * (x1 * x2))) ?_ (by grind)
    clear y0 y1 y2 z01 z02
    generalize P * (q1 * q2) - 1329227995784915872903807060280344576 * (x1 * x2) = G0 at *
    unfold nb at *; omega
  · refine nb_eq (b := (P * (q0 * q0) - 1329227995784915872903807060280344576 * (x0 * x0)) - (P * (q1 * q1) - 1329227995784915872903807060280344576 * (x1 * x1)) + (P * (q2 * q2) - 1329227995784915872903807060280344576 * (x2 * x2))) ?_ (by grind)
    clear z01 z02 z12
    generalize P * (q0 * q0) - 1329227995784915872903807060280344576 * (x0 * x0) = G0 at *
    generalize P * (q1 * q1) - 1329227995784915872903807060280344576 * (x1 * x1) = G1 at *
    generalize P * (q2 * q2) - 1329227995784915872903807060280344576 * (x2 * x2) = G2 at *
    unfold nb at *; omega
  · refine nb_eq (b := -2 * (P * (q0 * q1) - 1329227995784915872903807060280344576 * (x0 * x1))) ?_ (by grind)
    clear y0 y1 y2 z02 z12
    generalize P * (q0 * q1) - 1329227995784915872903807060280344576 * (x0 * x1) = G0 at *
    unfold nb at *; omega
  · refine nb_eq (b := -2 * (P * (q0 * q2) - 1329227995784915872903807060280344576 * (x0 * x2))) ?_ (by grind)
    clear y0 y1 y2 z01 z12
    generalize P * (q0 * q2) - 1329227995784915872903807060280344576 * (x0 * x2) = G0 at *
    unfold nb at *; omega
  · refine nb_eq (b := 2 * (P * (q0 * q1) - 1329227995784915872903807060280344576 * (x0 * x1))) ?_ (by grind)
    clear y0 y1 y2 z02 z12
    generalize P * (q0 * q1) - 1329227995784915872903807060280344576 * (x0 * x1) = G0 at *
    unfold nb at *; omega
  · refine nb_eq (b := (P * (q0 * q0) - 1329227995784915872903807060280344576 * (x0 * x0)) - (P * (q1 * q1) - 1329227995784915872903807060280344576 * (x1 * x1)) - (P * (q2 * q2) - 1329227995784915872903807060280344576 * (x2 * x2))) ?_ (by grind)
    clear z01 z02 z12
    generalize P * (q0 * q0) - 1329227995784915872903807060280344576 * (x0 * x0) = G0 at *
    generalize P * (q1 * q1) - 1329227995784915872903807060280344576 * (x1 * x1) = G1 at *
    generalize P * (q2 * q2) - 1329227995784915872903807060280344576 * (x2 * x2) = G2 at *
    unfold nb at *; omega
theorem rowK {A0 A1 A2 B0 B1 B2 u0 u1 u2 P : Int} (h0 : nb (P * A0 - 1329227995784915872903807060280344576 * B0) (13 * (1073741824 * P))) (h1 : nb (P * A1 - 1329227995784915872903807060280344576 * B1) (13 * (1073741824 * P))) (h2 : nb (P * A2 - 1329227995784915872903807060280344576 * B2) (13 * (1073741824 * P))) (g0 : nb u0 1073741824) (g1 : nb u1 1073741824) (g2 : nb u2 1073741824) :
    nb (P * (A0 * u0 + A1 * u1 + A2 * u2) - 1329227995784915872903807060280344576 * (B0 * u0 + B1 * u1 + B2 * u2)) (39 * (1152921504606846976 * P)) := by
  have e : P * (A0 * u0 + A1 * u1 + A2 * u2) - 1329227995784915872903807060280344576 * (B0 * u0 + B1 * u1 + B2 * u2) = (P * A0 - 1329227995784915872903807060280344576 * B0) * u0 + (P * A1 - 1329227995784915872903807060280344576 * B1) * u1 + (P * A2 - 1329227995784915872903807060280344576 * B2) * u2 := by grind
  rw [e]
  have p0 := h0.mul g0
  have p1 := h1.mul g1
  have p2 := h2.mul g2
  clear h0 h1 h2 e
  generalize (P * A0 - 1329227995784915872903807060280344576 * B0) * u0 = X0 at *
  generalize (P * A1 - 1329227995784915872903807060280344576 * B1) * u1 = X1 at *
  generalize (P * A2 - 1329227995784915872903807060280344576 * B2) * u2 = X2 at *
  unfold nb at *; omega
theorem dotX {m0 m1 m2 A0 A1 A2 u0 u1 u2 z : Int} (h0 : nb (2 * (m0 * 1073741824 - A0)) 1073741824) (h1 : nb (2 * (m1 * 1073741824 - A1)) 1073741824) (h2 : nb (2 * (m2 * 1073741824 - A2)) 1073741824) (g0 : nb u0 1073741824) (g1 : nb u1 1073741824) (g2 : nb u2 1073741824) (hz : nb (2 * (z * 1073741824 - (m0 * u0 + m1 * u1 + m2 * u2))) 1073741824) :
    nb (1152921504606846976 * z - (A0 * u0 + A1 * u1 + A2 * u2)) (2 * 1152921504606846976) := by
  have e : 2 * (1152921504606846976 * z - (A0 * u0 + A1 * u1 + A2 * u2)) = 1073741824 * (2 * (z * 1073741824 - (m0 * u0 + m1 * u1 + m2 * u2))) + 2 * (m0 * 1073741824 - A0) * u0 + 2 * (m1 * 1073741824 - A1) * u1 + 2 * (m2 * 1073741824 - A2) * u2 := by grind
  have p0 := h0.mul g0
  have p1 := h1.mul g1
  have p2 := h2.mul g2
  generalize 2 * (m0 * 1073741824 - A0) * u0 = X0 at *
  generalize 2 * (m1 * 1073741824 - A1) * u1 = X1 at *
  generalize 2 * (m2 * 1073741824 - A2) * u2 = X2 at *
  generalize 2 * (z * 1073741824 - (m0 * u0 + m1 * u1 + m2 * u2)) = Z at *
  generalize 1152921504606846976 * z - (A0 * u0 + A1 * u1 + A2 * u2) = Y at *
  clear h0 h1 h2
  unfold nb at *; omega
theorem dotK {P X Y z : Int} (hP : 0 ≤ P) (h : nb (1152921504606846976 * z - X) (2 * 1152921504606846976)) (g : nb (P * X - 1329227995784915872903807060280344576 * Y) (39 * (1152921504606846976 * P))) : nb (1152921504606846976 * (P * z) - 1329227995784915872903807060280344576 * Y) (41 * (1152921504606846976 * P)) := by
  have p := h.lmul hP
  have e : 1152921504606846976 * (P * z) - 1329227995784915872903807060280344576 * Y = P * (1152921504606846976 * z - X) + (P * X - 1329227995784915872903807060280344576 * Y) := by grind
  rw [e]
  generalize P * (1152921504606846976 * z - X) = A at *
  generalize P * X - 1329227995784915872903807060280344576 * Y = B at *
  unfold nb at *; omega
/-- The rows, in exact numbers. -/
theorem tilt_row (u0 u1 u2 : Int) :
    mx0 (1073741824 - u2) (-u1) u0 0 * u0 + mx1 (1073741824 - u2) (-u1) u0 0 * u1 + mx2 (1073741824 - u2) (-u1) u0 0 * u2 = -((u0 * u0 + u1 * u1 + u2 * u2 - 1152921504606846976) * u0) ∧
    mx3 (1073741824 - u2) (-u1) u0 0 * u0 + mx4 (1073741824 - u2) (-u1) u0 0 * u1 + mx5 (1073741824 - u2) (-u1) u0 0 * u2 = -((u0 * u0 + u1 * u1 + u2 * u2 - 1152921504606846976) * u1) ∧
    mx6 (1073741824 - u2) (-u1) u0 0 * u0 + mx7 (1073741824 - u2) (-u1) u0 0 * u1 + mx8 (1073741824 - u2) (-u1) u0 0 * u2 = -(1073741824 * ((1073741824 - u2) * (1073741824 - u2) + -u1 * -u1 + u0 * u0) + (u0 * u0 + u1 * u1 + u2 * u2 - 1152921504606846976) * (1073741824 - u2)) := by
  unfold mx0 mx1 mx2 mx3 mx4 mx5 mx6 mx7 mx8
  refine ⟨?_, ?_, ?_⟩ <;> grind
/-- The level numbers are small. -/
theorem lev_small {n m e u z : Int} (hn : 40000000 ≤ n) (m0 : 1030792152 ≤ m) (he : nb e 72000000000) (hu : nb u n) (h : nb (1152921504606846976 * (n * m * (n * m) * z) - 1329227995784915872903807060280344576 * -(e * u)) (41 * (1152921504606846976 * (n * m * (n * m))))) : nb z 3100 := by
  have p := he.mul hu
  have mm : 1030792152 * 1030792152 ≤ m * m := Int.mul_le_mul m0 m0 (by omega) (by omega)
  have nn : 40000000 * n ≤ n * n := Int.mul_le_mul_of_nonneg_right hn (by omega)
  have big : 40000000 * n * (1030792152 * 1030792152) ≤ n * n * (m * m) := Int.mul_le_mul nn mm (by omega) (by omega)
  have ek : n * m * (n * m) = n * n * (m * m) := by grind
  have pos : 0 < n * n * (m * m) := by omega
  rw [ek] at h
  refine nb.cancel pos ?_
  clear mm nn ek he hu
  generalize e * u = X at *
  generalize n * n * (m * m) * z = Y at *
  have e2 : n * n * (m * m) * 3100 = 3100 * (n * n * (m * m)) := by grind
  rw [e2]
  generalize n * n * (m * m) = P at *
  unfold nb at *; omega
/-- The upright number is One downwards. -/
theorem up_near {n m e w N z : Int} (hn : 17 ≤ n) (m0 : 1030792152 ≤ m) (m1 : m ≤ 1116691497) (hN : 0 ≤ N) (he : nb (e * w) (80 * N)) (hM : nb (n * n * (m * m) - 1152921504606846976 * N) (n * n * (m + 4 * 1073741824)))
    (h : nb (1152921504606846976 * (n * m * (n * m) * z) - 1329227995784915872903807060280344576 * -(1073741824 * N + e * w)) (41 * (1152921504606846976 * (n * m * (n * m))))) : nb (z + 1073741824) 300 := by
  have mm : 1030792152 * 1030792152 ≤ m * m := Int.mul_le_mul m0 m0 (by omega) (by omega)
  have pn : 0 < n * n := Int.mul_pos (by omega) (by omega)
  have big : n * n * (1030792152 * 1030792152) ≤ n * n * (m * m) := Int.mul_le_mul_of_nonneg_left mm (by omega)
  have c : n * n * (m + 4 * 1073741824) ≤ n * n * (5 * 1073741824 + 42949673) := Int.mul_le_mul_of_nonneg_left (by omega) (by omega)
  have ek : n * m * (n * m) = n * n * (m * m) := by grind
  have pos : 0 < n * n * (m * m) := by omega
  rw [ek] at h
  refine nb.cancel pos ?_
  have e2 : n * n * (m * m) * 300 = 300 * (n * n * (m * m)) := by grind
  have e3 : n * n * (m * m) * (z + 1073741824) = n * n * (m * m) * z + 1073741824 * (n * n * (m * m)) := by grind
  rw [e2, e3]
  clear mm ek e2 e3
  generalize n * n * (m + 4 * 1073741824) = Q at *
  generalize e * w = X at *
  generalize n * n * (m * m) * z = Y at *
  generalize n * n * (m * m) = P at *
  generalize n * n = R at *
  unfold nb at *; omega
end Go.Proofs.Ytaebmggjhjobnaa

/- Tilts: the vector made One long. Plain. -/
namespace Go.Proofs.Ytaebmggjhjobnaa
open Go.Lr Go.Tg
set_option linter.unusedVariables false
set_option linter.unusedSimpArgs false

theorem sq_pass_t {x t n : Int} (h : nb (2 * (t * n - x * 1073741824)) n) (hx : nb x n) : nb (4 * (n * n * (t * t) - 1152921504606846976 * (x * x))) (4294967297 * (n * n)) := by
  have e : 4 * (n * n * (t * t) - 1152921504606846976 * (x * x)) = 4294967296 * (x * (2 * (t * n - x * 1073741824))) + 2 * (t * n - x * 1073741824) * (2 * (t * n - x * 1073741824)) := by grind
  have p := hx.mul h
  have q := h.mul h
  rw [e]
  generalize x * (2 * (t * n - x * 1073741824)) = A at *
  generalize 2 * (t * n - x * 1073741824) * (2 * (t * n - x * 1073741824)) = B at *
  generalize n * n = C at *
  unfold nb at *; omega
/-- The made vector's length. -/
theorem unit_eps {f0 f1 f2 n u0 u1 u2 : Int} (hn : 16777216 ≤ n) (b0 : nb f0 n) (b1 : nb f1 n) (b2 : nb f2 n) (r0 : nb (2 * (u0 * n - f0 * 1073741824)) n) (r1 : nb (2 * (u1 * n - f1 * 1073741824)) n) (r2 : nb (2 * (u2 * n - f2 * 1073741824)) n)
    (F0 : n * n - n < f0 * f0 + (f1 * f1 + f2 * f2)) (F1 : f0 * f0 + (f1 * f1 + f2 * f2) ≤ n * n + n) : nb (u0 * u0 + u1 * u1 + u2 * u2 - 1152921504606846976) 72000000000 := by
  have s0 := sq_pass_t r0 b0
  have s1 := sq_pass_t r1 b1
  have s2 := sq_pass_t r2 b2
  have hp : 16777216 * n ≤ n * n := Int.mul_le_mul_of_nonneg_right hn (by omega)
  have pos : 0 < n * n := by omega
  refine nb.cancel pos ?_
  have e : n * n * (u0 * u0 + u1 * u1 + u2 * u2 - 1152921504606846976) = n * n * (u0 * u0) + n * n * (u1 * u1) + n * n * (u2 * u2) - 1152921504606846976 * (n * n) := by grind
  have e2 : n * n * 72000000000 = 72000000000 * (n * n) := by grind
  rw [e, e2]
  clear r0 r1 r2 e e2 b0 b1 b2
  generalize n * n * (u0 * u0) = X0 at *
  generalize n * n * (u1 * u1) = X1 at *
  generalize n * n * (u2 * u2) = X2 at *
  generalize f0 * f0 = G0 at *
  generalize f1 * f1 = G1 at *
  generalize f2 * f2 = G2 at *
  generalize n * n = P at *
  unfold nb at *; omega
theorem low1 {f u n : Int} (r : nb (2 * (u * n - f * 1073741824)) n) : 63 * (1152921504606846976 * (f * f)) - 1024 * (n * n) ≤ 64 * (n * n * (u * u)) := by
  have q := sqnn0 (1073741824 * f + 32 * (2 * (u * n - f * 1073741824)))
  have q2 := r.mul r
  have q3 := sqnn0 (2 * (u * n - f * 1073741824))
  have e : (1073741824 * f + 32 * (2 * (u * n - f * 1073741824))) * (1073741824 * f + 32 * (2 * (u * n - f * 1073741824))) = 64 * (1073741824 * (f * (2 * (u * n - f * 1073741824)))) + 1152921504606846976 * (f * f) + 1024 * (2 * (u * n - f * 1073741824) * (2 * (u * n - f * 1073741824))) := by grind
  have e2 : 4 * (n * n * (u * u)) = 4 * (1152921504606846976 * (f * f)) + 4 * (1073741824 * (f * (2 * (u * n - f * 1073741824)))) + 2 * (u * n - f * 1073741824) * (2 * (u * n - f * 1073741824)) := by grind
  rw [e] at q
  clear e r
  generalize 2 * (u * n - f * 1073741824) * (2 * (u * n - f * 1073741824)) = R at *
  generalize f * (2 * (u * n - f * 1073741824)) = S at *
  generalize n * n * (u * u) = T at *
  generalize f * f = V at *
  generalize n * n = P at *
  unfold nb at *; omega
/-- What is left of One upwards, against the level part: a vector that is not quite upright. -/
theorem tilt_lev {f0 f1 f2 n u0 u1 u2 : Int} (hn : 16777216 ≤ n) (b2 : nb f2 n) (r0 : nb (2 * (u0 * n - f0 * 1073741824)) n) (r1 : nb (2 * (u1 * n - f1 * 1073741824)) n) (r2 : nb (2 * (u2 * n - f2 * 1073741824)) n)
    (F0 : n * n - n < f0 * f0 + (f1 * f1 + f2 * f2)) (w0 : 17 ≤ 1073741824 - u2) (w1 : 1073741824 - u2 ≤ 1048576) : 9663676416 * (1073741824 - u2) ≤ 10 * (u0 * u0 + u1 * u1) := by
  have l0 := low1 r0
  have l1 := low1 r1
  obtain ⟨W, hW⟩ : ∃ W, W = 1073741824 - u2 := ⟨_, rfl⟩
  obtain ⟨k, hk⟩ : ∃ k, k = n - f2 := ⟨_, rfl⟩
  obtain ⟨r, hr⟩ : ∃ r, r = 2 * (u2 * n - f2 * 1073741824) := ⟨_, rfl⟩
  have hf2 : f2 = n - k := by omega
  have hu2 : u2 = 1073741824 - W := by omega
  rw [← hr] at r2
  have eW : 2 * (W * n) = 2 * 1073741824 * k - r := by subst hr hf2 hu2; grind
  rw [← hW] at w0 w1 ⊢
  have k0 : 17 * n ≤ W * n := Int.mul_le_mul_of_nonneg_right w0 (by omega)
  have k1 : W * n ≤ 1048576 * n := Int.mul_le_mul_of_nonneg_right w1 (by omega)
  have kp : 1 ≤ k := by unfold nb at r2; omega
  have ks : 1000 * k ≤ n := by unfold nb at r2; omega
  have kn : n ≤ k * n := by
    have := Int.mul_le_mul_of_nonneg_right kp (show 0 ≤ n by omega); omega
  have kk : 1000 * (k * k) ≤ k * n := by
    have := Int.mul_le_mul_of_nonneg_left ks (show 0 ≤ k by omega)
    have e : k * (1000 * k) = 1000 * (k * k) := by grind
    omega
  have eF : f2 * f2 = n * n - 2 * (k * n) + k * k := by subst hf2; grind
  have eP : 2 * (W * (n * n)) = 2 * 1073741824 * (k * n) - r * n := by
    have : 2 * (W * (n * n)) = 2 * (W * n) * n := by grind
    rw [this, eW]; grind
  have wP : 17 * (n * n) ≤ W * (n * n) := Int.mul_le_mul_of_nonneg_right w0 (sqnn0 n)
  have rn : nb (r * n) (n * n) := by
    have h1 : nb n n := by unfold nb; omega
    exact r2.mul h1
  have pos : 0 < n * n := Int.mul_pos (by omega) (by omega)
  refine Int.le_of_mul_le_mul_left (a := n * n) ?_ pos
  have e1 : n * n * (9663676416 * W) = 9663676416 * (W * (n * n)) := by grind
  have e2 : n * n * (10 * (u0 * u0 + u1 * u1)) = 10 * (n * n * (u0 * u0)) + 10 * (n * n * (u1 * u1)) := by grind
  rw [e1, e2]
  rw [eF] at F0
  clear e1 e2 eW k0 k1 r0 r1 hr hW hk hf2 hu2 eF
  generalize n * n * (u0 * u0) = X0 at *
  generalize n * n * (u1 * u1) = X1 at *
  generalize W * (n * n) = WP at *
  generalize r * n = RN at *
  generalize f0 * f0 = G0 at *
  generalize f1 * f1 = G1 at *
  generalize k * n = KN at *
  generalize k * k = KK at *
  generalize n * n = P at *
  unfold nb at rn
  omega
/-- A vector, its Tilt, and the vector turned by it. -/
theorem tilt_all {f0 f1 f2 n u0 u1 u2 : Int} (hn : 16777216 ≤ n) (b0 : nb f0 n) (b1 : nb f1 n) (b2 : nb f2 n) (r0 : nb (2 * (u0 * n - f0 * 1073741824)) n) (r1 : nb (2 * (u1 * n - f1 * 1073741824)) n) (r2 : nb (2 * (u2 * n - f2 * 1073741824)) n)
    (g0 : nb u0 1073741824) (g1 : nb u1 1073741824) (g2 : nb u2 1073741824) (F0 : n * n - n < f0 * f0 + (f1 * f1 + f2 * f2)) (F1 : f0 * f0 + (f1 * f1 + f2 * f2) ≤ n * n + n) (w0 : 17 ≤ 1073741824 - u2) {q0 q1 q2 q3 : Int}
    (h0 : q0 = uV0 (1073741824 - u2) (-u1) u0 0) (h1 : q1 = uV1 (1073741824 - u2) (-u1) u0 0) (h2 : q2 = uV2 (1073741824 - u2) (-u1) u0 0) (h3 : q3 = uV3 (1073741824 - u2) (-u1) u0 0) :
    nb (dotV 30 [rm6 q0 q1 q2 q3, rm7 q0 q1 q2 q3, rm8 q0 q1 q2 q3] [u0, u1, u2] + 1073741824) 300 ∧
    (1048576 ≤ 1073741824 - u2 → nb (dotV 30 [rm0 q0 q1 q2 q3, rm1 q0 q1 q2 q3, rm2 q0 q1 q2 q3] [u0, u1, u2]) 3100 ∧ nb (dotV 30 [rm3 q0 q1 q2 q3, rm4 q0 q1 q2 q3, rm5 q0 q1 q2 q3] [u0, u1, u2]) 3100) := by
  have eps := unit_eps hn b0 b1 b2 r0 r1 r2 F0 F1
  have hu : UnitQ q0 q1 q2 q3 := by rw [h0, h1, h2, h3]; exact unit_ok _ _ _ _
  have bw : nb (1073741824 - u2) 2147483648 := by unfold nb at *; omega
  obtain ⟨a, m, tp, e3⟩ := two_ok (x0 := 1073741824 - u2) (x1 := -u1) (x2 := u0) w0 bw.2 (g1.neg.le (by omega)) (g0.le (by omega))
  rw [← h0, ← h1, ← h2] at tp
  rw [← h3] at e3
  clear h0 h1 h2 h3
  subst e3
  have cq := cols_ok hu
  obtain ⟨v0, v1, v2, v3, v4, v5, v6, v7, v8, -⟩ := rm_eq hu.ha hu.hb hu.hc hu.hd
  have up : ∀ {x : Int}, nb x 1073741830 → nb x 4294967296 := fun h => h.le (by omega)
  have vp : ∀ {x : Int}, nb x 1073741824 → nb x 4398046511104 := fun h => h.le (by omega)
  have z0 := (dot3 (up cq.b0) (up cq.b1) (up cq.b2) (vp g0) (vp g1) (vp g2)).1
  have z1 := (dot3 (up cq.b3) (up cq.b4) (up cq.b5) (vp g0) (vp g1) (vp g2)).1
  have z2 := (dot3 (up cq.b6) (up cq.b7) (up cq.b8) (vp g0) (vp g1) (vp g2)).1
  clear cq
  rw [v0, v1, v2] at z0
  rw [v3, v4, v5] at z1
  rw [v6, v7, v8] at z2
  rw [v0, v1, v2, v3, v4, v5, v6, v7, v8]
  have y0 := dotX (rn30 _) (rn30 _) (rn30 _) g0 g1 g2 z0
  have y1 := dotX (rn30 _) (rn30 _) (rn30 _) g0 g1 g2 z1
  have y2 := dotX (rn30 _) (rn30 _) (rn30 _) g0 g1 g2 z2
  obtain ⟨m0, m1, m2, m3, m4, m5, m6, m7, m8⟩ := mx_two tp
  have pk : 0 ≤ a * m * (a * m) := sqnn0 _
  have x0 := dotK pk y0 (rowK m0 m1 m2 g0 g1 g2)
  have x1 := dotK pk y1 (rowK m3 m4 m5 g0 g1 g2)
  have x2 := dotK pk y2 (rowK m6 m7 m8 g0 g1 g2)
  obtain ⟨t0, t1, t2⟩ := tilt_row u0 u1 u2
  rw [t0] at x0
  rw [t1] at x1
  rw [t2] at x2
  clear t0 t1 t2 y0 y1 y2 z0 z1 z2 m0 m1 m2 m3 m4 m5 m6 m7 m8 v0 v1 v2 v3 v4 v5 v6 v7 v8
  generalize dotV 30 [rndV (mx0 q0 q1 q2 0) 30, rndV (mx1 q0 q1 q2 0) 30, rndV (mx2 q0 q1 q2 0) 30] [u0, u1, u2] = Z0 at *
  generalize dotV 30 [rndV (mx3 q0 q1 q2 0) 30, rndV (mx4 q0 q1 q2 0) 30, rndV (mx5 q0 q1 q2 0) 30] [u0, u1, u2] = Z1 at *
  generalize dotV 30 [rndV (mx6 q0 q1 q2 0) 30, rndV (mx7 q0 q1 q2 0) 30, rndV (mx8 q0 q1 q2 0) 30] [u0, u1, u2] = Z2 at *
  have N0 := tp.N0
  have N1 := tp.N1
  have s0 := sqnn0 u0
  have s1 := sqnn0 u1
  have sn : -u1 * -u1 = u1 * u1 := by grind
  have sw := sqnn0 (1073741824 - u2)
  have ew : (1073741824 - u2) * (1073741824 - u2) = 1152921504606846976 - 2 * (1073741824 * u2) + u2 * u2 := by grind
  have hN : 9663676416 * (1073741824 - u2) ≤ 10 * ((1073741824 - u2) * (1073741824 - u2) + -u1 * -u1 + u0 * u0) := by
    rcases Int.lt_or_le (1073741824 - u2) 1048576 with g | g
    · have := tilt_lev hn b2 r0 r1 r2 F0 w0 (by omega)
      rw [sn]; omega
    · rw [sn, ew]; unfold nb at eps; omega
  have he : nb ((u0 * u0 + u1 * u1 + u2 * u2 - 1152921504606846976) * (1073741824 - u2)) (80 * ((1073741824 - u2) * (1073741824 - u2) + -u1 * -u1 + u0 * u0)) := by
    have h1 : nb (1073741824 - u2) (1073741824 - u2) := by unfold nb; omega
    have p := eps.mul h1
    generalize (u0 * u0 + u1 * u1 + u2 * u2 - 1152921504606846976) * (1073741824 - u2) = X at *
    generalize (1073741824 - u2) * (1073741824 - u2) + -u1 * -u1 + u0 * u0 = Y at *
    unfold nb at *; omega
  refine ⟨up_near tp.hn tp.m0 tp.m1 (by rw [sn]; omega) he tp.hM x2, fun wl => ?_⟩
  have ha : 40000000 ≤ a := by
    rcases Int.lt_or_le a 40000000 with g | g
    · exfalso
      have hh := tp.hn
      have : a * (a + 1) ≤ 39999999 * 40000000 := Int.mul_le_mul (by omega) (by omega) (by omega) (by omega)
      have e : a * (a + 1) = a * a + a := by grind
      rw [sn, ew] at N1
      unfold nb at eps; omega
    · exact g
  exact ⟨lev_small ha tp.m0 eps tp.b2 x0, lev_small ha tp.m0 eps (by have := tp.b1; unfold nb at *; omega) x1⟩
/-- 1073741824pwards: half a turn. -/
theorem tilt_flip {u0 u1 u2 : Int} (g0 : nb u0 1073741824) (g1 : nb u1 1073741824) (g2 : nb u2 1073741824) : nb (dotV 30 [rm6 0 1073741824 0 0, rm7 0 1073741824 0 0, rm8 0 1073741824 0 0] [u0, u1, u2] + u2) 2 := by
  obtain ⟨v0, v1, v2, v3, v4, v5, v6, v7, v8, -⟩ := rm_eq (s0 := 0) (s1 := 1073741824) (s2 := 0) (s3 := 0) (by unfold one; omega) (by unfold one; omega) (by unfold one; omega) (by unfold one; omega)
  have up : ∀ {x y : Int}, nb (2 * (x * 1073741824 - y)) 1073741824 → nb y 1152921504606846976 → nb x 4294967296 := by intro x y h h2; unfold nb at *; omega
  have e6 : mx6 0 1073741824 0 0 = 0 := by decide
  have e7 : mx7 0 1073741824 0 0 = 0 := by decide
  have e8 : mx8 0 1073741824 0 0 = -1152921504606846976 := by decide
  have q0 : nb (0 : Int) 1152921504606846976 := by unfold nb; omega
  have q1 : nb (-1152921504606846976 : Int) 1152921504606846976 := by unfold nb; omega
  rw [v6, v7, v8, e6, e7, e8]
  have vp : ∀ {x : Int}, nb x 1073741824 → nb x 4398046511104 := fun h => h.le (by omega)
  have z := (dot3 (up (rn30 0) q0) (up (rn30 0) q0) (up (rn30 (-1152921504606846976)) q1) (vp g0) (vp g1) (vp g2)).1
  have y := dotX (rn30 _) (rn30 _) (rn30 _) g0 g1 g2 z
  generalize dotV 30 [rndV 0 30, rndV 0 30, rndV (-1152921504606846976) 30] [u0, u1, u2] = Z at *
  unfold nb at *; omega
end Go.Proofs.Ytaebmggjhjobnaa

/- A summary less: the function is walked into again. -/
namespace Go.Lr
def dropS (S : FuncId → Option SumK) (f : FuncId) : FuncId → Option SumK := fun g =>
  match Nat.beq g f with
  | true => none
  | false => S g
theorem Sound.drop {P : Program} {S : FuncId → Option SumK} (h : Sound P S) (f : FuncId) : Sound P (dropS S f) := by
  refine ⟨fun g t hg => ?_, h.mix, h.ng⟩
  unfold dropS at hg
  split at hg
  · cases hg
  · exact h.sums g t hg
/-- Lists of decisions: so many that the kernel knows, so many that are true, false. -/
def nn : Nat → List (Option Bool) → List (Option Bool)
  | 0, l => l
  | n + 1, l => none :: nn n l
def tt : Nat → List (Option Bool) → List (Option Bool)
  | 0, l => l
  | n + 1, l => some true :: tt n l
def ff : Nat → List (Option Bool) → List (Option Bool)
  | 0, l => l
  | n + 1, l => some false :: ff n l
/-- The same asked so often. -/
def ra : Nat → Bool × Bool → List (Bool × Bool) → List (Bool × Bool)
  | 0, _, l => l
  | n + 1, c, l => c :: ra n c l
theorem ra_ok {c : Bool × Bool} {l : List (Bool × Bool)} (h : c.1 = c.2) (hl : ∀ d ∈ l, d.1 = d.2) : ∀ (n : Nat), ∀ d ∈ ra n c l, d.1 = d.2
  | 0 => hl
  | n + 1 => by
    intro d hd
    simp only [ra, List.mem_cons] at hd
    rcases hd with rfl | hd
    · exact h
    · exact ra_ok h hl n d hd
end Go.Lr

/- The law folder's near, of chapter 7: where it answers true; all summaries for the laws about turned vectors. -/
namespace Go.Proofs.Ytaebmggjhjobnaa
open Go.Lr
set_option linter.unusedVariables false
set_option linter.unusedSimpArgs false
theorem nrG (a0 a1 a2 b0 b1 b2 m : Int) : (runF Try.prog S47 Zl 4000 39 [.v (.agg [.int .i64 a0, .int .i64 a1, .int .i64 a2]), .v (.agg [.int .i64 b0, .int .i64 b1, .int .i64 b2]), I m] [] 0 (nn 1 (ff 12 (nn 1 (ff 12 (nn 1 (ff 12 []))))))).map (fun r => (r.1, r.2.2.2)) = some (LV.v (V1.one (At.bool true)), [(decide (wr IntKind.i64 (a2 - b2) < wr IntKind.i64 (0 - m)), false), (decide (wr IntKind.i64 (a2 - b2) > m), false), (decide (wr IntKind.i64 (a2 - b2) > m), false), (decide (wr IntKind.i64 (a2 - b2) > m), false), (decide (wr IntKind.i64 (a2 - b2) > m), false), (decide (wr IntKind.i64 (a2 - b2) > m), false), (decide (wr IntKind.i64 (a2 - b2) > m), false), (decide (wr IntKind.i64 (a2 - b2) > m), false), (decide (wr IntKind.i64 (a2 - b2) > m), false), (decide (wr IntKind.i64 (a2 - b2) > m), false), (decide (wr IntKind.i64 (a2 - b2) > m), false), (decide (wr IntKind.i64 (a2 - b2) > m), false), (decide (wr IntKind.i64 (a1 - b1) < wr IntKind.i64 (0 - m)), false), (decide (wr IntKind.i64 (a1 - b1) > m), false), (decide (wr IntKind.i64 (a1 - b1) > m), false), (decide (wr IntKind.i64 (a1 - b1) > m), false), (decide (wr IntKind.i64 (a1 - b1) > m), false), (decide (wr IntKind.i64 (a1 - b1) > m), false), (decide (wr IntKind.i64 (a1 - b1) > m), false), (decide (wr IntKind.i64 (a1 - b1) > m), false), (decide (wr IntKind.i64 (a1 - b1) > m), false), (decide (wr IntKind.i64 (a1 - b1) > m), false), (decide (wr IntKind.i64 (a1 - b1) > m), false), (decide (wr IntKind.i64 (a1 - b1) > m), false), (decide (wr IntKind.i64 (a0 - b0) < wr IntKind.i64 (0 - m)), false), (decide (wr IntKind.i64 (a0 - b0) > m), false), (decide (wr IntKind.i64 (a0 - b0) > m), false), (decide (wr IntKind.i64 (a0 - b0) > m), false), (decide (wr IntKind.i64 (a0 - b0) > m), false), (decide (wr IntKind.i64 (a0 - b0) > m), false), (decide (wr IntKind.i64 (a0 - b0) > m), false), (decide (wr IntKind.i64 (a0 - b0) > m), false), (decide (wr IntKind.i64 (a0 - b0) > m), false), (decide (wr IntKind.i64 (a0 - b0) > m), false), (decide (wr IntKind.i64 (a0 - b0) > m), false), (decide (wr IntKind.i64 (a0 - b0) > m), false)]) := by kernel_rfl

/-- Within so much, number by number. -/
def nr1 (a b m : Int) : Bool := !decide (wr IntKind.i64 (a - b) > m) && !decide (wr IntKind.i64 (a - b) < wr IntKind.i64 (0 - m))
def nr3 (a0 a1 a2 b0 b1 b2 m : Int) : Bool := nr1 a0 b0 m && (nr1 a1 b1 m && nr1 a2 b2 m)
def near7S : List LV → Option (LV × List (Bool × Bool))
  | [.v (.agg [.int .i64 a0, .int .i64 a1, .int .i64 a2]), .v (.agg [.int .i64 b0, .int .i64 b1, .int .i64 b2]), .v (.one (.int .i64 m))] => some (B true, [(nr3 a0 a1 a2 b0 b1 b2 m, true)])
  | _ => none
theorem nr1_iff {a b m : Int} (h : nr1 a b m = true) : decide (wr IntKind.i64 (a - b) > m) = false ∧ decide (wr IntKind.i64 (a - b) < wr IntKind.i64 (0 - m)) = false := by
  unfold nr1 at h
  rw [Bool.and_eq_true, Bool.not_eq_true', Bool.not_eq_true'] at h
  exact h
theorem sumNear7 : SumOK Try.prog 39 (pureSum near7S) := by
  refine pureSum_run (z := Zl) sound47 (own_of sound47 Try.func39 (by kernel_rfl)) fun args v cs hF hc => ?_
  unfold near7S at hF
  split at hF
  · rename_i a0 a1 a2 b0 b1 b2 m
    cases hF
    have h := hd_of hc
    unfold nr3 at h
    rw [Bool.and_eq_true, Bool.and_eq_true] at h
    obtain ⟨h0, h1, h2⟩ := h
    obtain ⟨x0, y0⟩ := nr1_iff h0
    obtain ⟨x1, y1⟩ := nr1_iff h1
    obtain ⟨x2, y2⟩ := nr1_iff h2
    refine ⟨4000, _, _, nrG a0 a1 a2 b0 b1 b2 m, ?_⟩
    rw [x0, y0, x1, y1, x2, y2]
    simp
  · cases hF
noncomputable def S55 : FuncId → Option SumK := more S47 39 (pureSum near7S)
theorem sound55 : Sound Try.prog S55 := sound47.more sumNear7
end Go.Proofs.Ytaebmggjhjobnaa

/- The law RotTilts: its runs, and why they answer true. -/
namespace Go.Proofs.Ytaebmggjhjobnaa
open Go.Lr Go.RowKit Go.Tg
set_option linter.unusedVariables false
set_option linter.unusedSimpArgs false
set_option maxHeartbeats 1000000

theorem tiA (f0 f1 f2 : Int) : (runF Try.prog S55 Zl 4000 9 [.v (.agg [.int .i64 f0, .int .i64 f1, .int .i64 f2])] [] 0 (nn 2 (tt 5 []))).map (fun r => (r.1, r.2.2.2)) = some (LV.v (V1.one (At.bool true)), (ra 5 (decide (f0 < -549755813888), true) [])) := by kernel_rfl
theorem tiB (f0 f1 f2 : Int) : (runF Try.prog S55 Zl 4000 9 [.v (.agg [.int .i64 f0, .int .i64 f1, .int .i64 f2])] [] 0 (nn 2 (ff 5 (tt 1 [])))).map (fun r => (r.1, r.2.2.2)) = some (LV.v (V1.one (At.bool true)), (ra 1 (decide (f0 > 549755813888), true) (ra 5 (decide (f0 < -549755813888), false) []))) := by kernel_rfl
theorem tiC (f0 f1 f2 : Int) : (runF Try.prog S55 Zl 4000 9 [.v (.agg [.int .i64 f0, .int .i64 f1, .int .i64 f2])] [] 0 (nn 2 (ff 6 (nn 1 (tt 5 []))))).map (fun r => (r.1, r.2.2.2)) = some (LV.v (V1.one (At.bool true)), (ra 5 (decide (f1 < -549755813888), true) (ra 1 (decide (f0 > 549755813888), false) (ra 5 (decide (f0 < -549755813888), false) [])))) := by kernel_rfl
theorem tiD (f0 f1 f2 : Int) : (runF Try.prog S55 Zl 4000 9 [.v (.agg [.int .i64 f0, .int .i64 f1, .int .i64 f2])] [] 0 (nn 2 (ff 6 (nn 1 (ff 5 (tt 1 [])))))).map (fun r => (r.1, r.2.2.2)) = some (LV.v (V1.one (At.bool true)), (ra 1 (decide (f1 > 549755813888), true) (ra 5 (decide (f1 < -549755813888), false) (ra 1 (decide (f0 > 549755813888), false) (ra 5 (decide (f0 < -549755813888), false) []))))) := by kernel_rfl
theorem tiE (f0 f1 f2 : Int) : (runF Try.prog S55 Zl 4000 9 [.v (.agg [.int .i64 f0, .int .i64 f1, .int .i64 f2])] [] 0 (nn 2 (ff 6 (nn 1 (ff 6 (nn 1 (tt 5 []))))))).map (fun r => (r.1, r.2.2.2)) = some (LV.v (V1.one (At.bool true)), (ra 5 (decide (f2 < -549755813888), true) (ra 1 (decide (f1 > 549755813888), false) (ra 5 (decide (f1 < -549755813888), false) (ra 1 (decide (f0 > 549755813888), false) (ra 5 (decide (f0 < -549755813888), false) [])))))) := by kernel_rfl
theorem tiF (f0 f1 f2 : Int) : (runF Try.prog S55 Zl 4000 9 [.v (.agg [.int .i64 f0, .int .i64 f1, .int .i64 f2])] [] 0 (nn 2 (ff 6 (nn 1 (ff 6 (nn 1 (ff 5 (tt 1 [])))))))).map (fun r => (r.1, r.2.2.2)) = some (LV.v (V1.one (At.bool true)), (ra 1 (decide (f2 > 549755813888), true) (ra 5 (decide (f2 < -549755813888), false) (ra 1 (decide (f1 > 549755813888), false) (ra 5 (decide (f1 < -549755813888), false) (ra 1 (decide (f0 > 549755813888), false) (ra 5 (decide (f0 < -549755813888), false) []))))))) := by kernel_rfl
theorem tiG (f0 f1 f2 : Int) : (runF Try.prog S55 Zl 4000 9 [.v (.agg [.int .i64 f0, .int .i64 f1, .int .i64 f2])] [] 0 (nn 2 (ff 6 (nn 1 (ff 6 (nn 1 (ff 6 (nn 1 (tt 1 []))))))))).map (fun r => (r.1, r.2.2.2)) = some (LV.v (V1.one (At.bool true)), (ra 1 (decide (hypV [f0, f1, f2] < 16777216), true) (ra 1 (decide (f2 > 549755813888), false) (ra 5 (decide (f2 < -549755813888), false) (ra 1 (decide (f1 > 549755813888), false) (ra 5 (decide (f1 < -549755813888), false) (ra 1 (decide (f0 > 549755813888), false) (ra 5 (decide (f0 < -549755813888), false) [])))))))) := by kernel_rfl
theorem tiH (f0 f1 f2 : Int) : (runF Try.prog S55 Zl 4000 9 [.v (.agg [.int .i64 f0, .int .i64 f1, .int .i64 f2])] [] 0 (nn 2 (ff 6 (nn 1 (ff 6 (nn 1 (ff 6 (nn 1 (ff 1 (tt 1 [])))))))))).map (fun r => (r.1, r.2.2.2)) = some (LV.v (V1.one (At.bool (decide (dotV 30 [rm6 (satV (tV0 f0 f1 f2)) (satV (tV1 f0 f1 f2)) (satV (tV2 f0 f1 f2)) (satV (tV3 f0 f1 f2)), rm7 (satV (tV0 f0 f1 f2)) (satV (tV1 f0 f1 f2)) (satV (tV2 f0 f1 f2)) (satV (tV3 f0 f1 f2)), rm8 (satV (tV0 f0 f1 f2)) (satV (tV1 f0 f1 f2)) (satV (tV2 f0 f1 f2)) (satV (tV3 f0 f1 f2))] [divPV f0 (hypV [f0, f1, f2]) 30, divPV f1 (hypV [f0, f1, f2]) 30, divPV f2 (hypV [f0, f1, f2]) 30] ≤ -1073737728)))), (ra 1 (decide (wr IntKind.i64 (1073741824 - divPV f2 (hypV [f0, f1, f2]) 30) < 1048576), true) (ra 1 (decide (hypV [f0, f1, f2] < 16777216), false) (ra 1 (decide (f2 > 549755813888), false) (ra 5 (decide (f2 < -549755813888), false) (ra 1 (decide (f1 > 549755813888), false) (ra 5 (decide (f1 < -549755813888), false) (ra 1 (decide (f0 > 549755813888), false) (ra 5 (decide (f0 < -549755813888), false) []))))))))) := by kernel_rfl
theorem tiI (f0 f1 f2 : Int) : (runF Try.prog S55 Zl 4000 9 [.v (.agg [.int .i64 f0, .int .i64 f1, .int .i64 f2])] [] 0 (nn 2 (ff 6 (nn 1 (ff 6 (nn 1 (ff 6 (nn 1 (ff 2 []))))))))).map (fun r => (r.1, r.2.2.2)) = some (LV.v (V1.one (At.bool true)), (ra 1 (nr3 (dotV 30 [rm0 (satV (tV0 f0 f1 f2)) (satV (tV1 f0 f1 f2)) (satV (tV2 f0 f1 f2)) (satV (tV3 f0 f1 f2)), rm1 (satV (tV0 f0 f1 f2)) (satV (tV1 f0 f1 f2)) (satV (tV2 f0 f1 f2)) (satV (tV3 f0 f1 f2)), rm2 (satV (tV0 f0 f1 f2)) (satV (tV1 f0 f1 f2)) (satV (tV2 f0 f1 f2)) (satV (tV3 f0 f1 f2))] [divPV f0 (hypV [f0, f1, f2]) 30, divPV f1 (hypV [f0, f1, f2]) 30, divPV f2 (hypV [f0, f1, f2]) 30]) (dotV 30 [rm3 (satV (tV0 f0 f1 f2)) (satV (tV1 f0 f1 f2)) (satV (tV2 f0 f1 f2)) (satV (tV3 f0 f1 f2)), rm4 (satV (tV0 f0 f1 f2)) (satV (tV1 f0 f1 f2)) (satV (tV2 f0 f1 f2)) (satV (tV3 f0 f1 f2)), rm5 (satV (tV0 f0 f1 f2)) (satV (tV1 f0 f1 f2)) (satV (tV2 f0 f1 f2)) (satV (tV3 f0 f1 f2))] [divPV f0 (hypV [f0, f1, f2]) 30, divPV f1 (hypV [f0, f1, f2]) 30, divPV f2 (hypV [f0, f1, f2]) 30]) (dotV 30 [rm6 (satV (tV0 f0 f1 f2)) (satV (tV1 f0 f1 f2)) (satV (tV2 f0 f1 f2)) (satV (tV3 f0 f1 f2)), rm7 (satV (tV0 f0 f1 f2)) (satV (tV1 f0 f1 f2)) (satV (tV2 f0 f1 f2)) (satV (tV3 f0 f1 f2)), rm8 (satV (tV0 f0 f1 f2)) (satV (tV1 f0 f1 f2)) (satV (tV2 f0 f1 f2)) (satV (tV3 f0 f1 f2))] [divPV f0 (hypV [f0, f1, f2]) 30, divPV f1 (hypV [f0, f1, f2]) 30, divPV f2 (hypV [f0, f1, f2]) 30]) 0 0 (-1073741824) 4096, true) (ra 1 (decide (wr IntKind.i64 (1073741824 - divPV f2 (hypV [f0, f1, f2]) 30) < 1048576), false) (ra 1 (decide (hypV [f0, f1, f2] < 16777216), false) (ra 1 (decide (f2 > 549755813888), false) (ra 5 (decide (f2 < -549755813888), false) (ra 1 (decide (f1 > 549755813888), false) (ra 5 (decide (f1 < -549755813888), false) (ra 1 (decide (f0 > 549755813888), false) (ra 5 (decide (f0 < -549755813888), false) [])))))))))) := by kernel_rfl

theorem nr1_ok {a b m : Int} (h : nb (a - b) m) (hm : m ≤ 1099511627776) : nr1 a b m = true := by
  unfold nb at h
  unfold nr1
  have e1 : wr IntKind.i64 (a - b) = a - b := w64_in (by omega) (by omega)
  have e2 : wr IntKind.i64 (0 - m) = 0 - m := w64_in (by omega) (by omega)
  rw [e1, e2, decide_eq_false (show ¬ a - b > m by omega), decide_eq_false (show ¬ a - b < 0 - m by omega)]
  rfl
def tiZ (k : Int) (f0 f1 f2 : Int) (a b c : Int → Int → Int → Int → Int) : Int := dotV 30 [a (satV (tV0 f0 f1 f2)) (satV (tV1 f0 f1 f2)) (satV (tV2 f0 f1 f2)) (satV (tV3 f0 f1 f2)), b (satV (tV0 f0 f1 f2)) (satV (tV1 f0 f1 f2)) (satV (tV2 f0 f1 f2)) (satV (tV3 f0 f1 f2)), c (satV (tV0 f0 f1 f2)) (satV (tV1 f0 f1 f2)) (satV (tV2 f0 f1 f2)) (satV (tV3 f0 f1 f2))] [divPV f0 (hypV [f0, f1, f2]) 30, divPV f1 (hypV [f0, f1, f2]) 30, divPV f2 (hypV [f0, f1, f2]) 30]
theorem ti_all {f0 f1 f2 : Int} (h0 : nb f0 549755813888) (h1 : nb f1 549755813888) (h2 : nb f2 549755813888) (hn : ¬ hypV [f0, f1, f2] < 16777216) :
    wr IntKind.i64 (1073741824 - divPV f2 (hypV [f0, f1, f2]) 30) = 1073741824 - divPV f2 (hypV [f0, f1, f2]) 30 ∧
    (1073741824 - divPV f2 (hypV [f0, f1, f2]) 30 < 1048576 → tiZ 0 f0 f1 f2 rm6 rm7 rm8 ≤ -1073737728) ∧
    (¬ 1073741824 - divPV f2 (hypV [f0, f1, f2]) 30 < 1048576 → nr3 (tiZ 0 f0 f1 f2 rm0 rm1 rm2) (tiZ 0 f0 f1 f2 rm3 rm4 rm5) (tiZ 0 f0 f1 f2 rm6 rm7 rm8) 0 0 (-1073741824) 4096 = true) := by
  have i0 := satV_S (inS_nb h0 (by omega))
  have i1 := satV_S (inS_nb h1 (by omega))
  have i2 := satV_S (inS_nb h2 (by omega))
  have ev : hypV [f0, f1, f2] = exN f0 f1 f2 := by unfold exN; rw [i0, i1, i2]
  obtain ⟨-, c1, c2, c3, c4, c5, c6, -⟩ := hyp3 (h0.le (show (549755813888 : Int) ≤ 1099511627776 by omega)) (h1.le (show (549755813888 : Int) ≤ 1099511627776 by omega)) (h2.le (show (549755813888 : Int) ≤ 1099511627776 by omega))
  unfold tiZ
  rw [ev] at hn ⊢
  have hz : (exN f0 f1 f2 == 0) = false := by
    have : exN f0 f1 f2 ≠ 0 := by omega
    simpa using this
  have eu : ∀ v, satV v = v → tU v f0 f1 f2 = divPV v (exN f0 f1 f2) 30 := by intro v hv; unfold tU; rw [hv]
  have t0 : tV0 f0 f1 f2 = bif decide (wr IntKind.i64 (1073741824 - divPV f2 (exN f0 f1 f2) 30) ≤ 16) then 0 else uV0 (wr IntKind.i64 (1073741824 - divPV f2 (exN f0 f1 f2) 30)) (wr IntKind.i64 (0 - divPV f1 (exN f0 f1 f2) 30)) (divPV f0 (exN f0 f1 f2) 30) 0 := by
    unfold tV0; rw [cond_f hz, eu _ i0, eu _ i1, eu _ i2]
  have t1 : tV1 f0 f1 f2 = bif decide (wr IntKind.i64 (1073741824 - divPV f2 (exN f0 f1 f2) 30) ≤ 16) then 1073741824 else uV1 (wr IntKind.i64 (1073741824 - divPV f2 (exN f0 f1 f2) 30)) (wr IntKind.i64 (0 - divPV f1 (exN f0 f1 f2) 30)) (divPV f0 (exN f0 f1 f2) 30) 0 := by
    unfold tV1; rw [cond_f hz, eu _ i0, eu _ i1, eu _ i2]
  have t2 : tV2 f0 f1 f2 = bif decide (wr IntKind.i64 (1073741824 - divPV f2 (exN f0 f1 f2) 30) ≤ 16) then 0 else uV2 (wr IntKind.i64 (1073741824 - divPV f2 (exN f0 f1 f2) 30)) (wr IntKind.i64 (0 - divPV f1 (exN f0 f1 f2) 30)) (divPV f0 (exN f0 f1 f2) 30) 0 := by
    unfold tV2; rw [cond_f hz, eu _ i0, eu _ i1, eu _ i2]
  have t3 : tV3 f0 f1 f2 = bif decide (wr IntKind.i64 (1073741824 - divPV f2 (exN f0 f1 f2) 30) ≤ 16) then 0 else uV3 (wr IntKind.i64 (1073741824 - divPV f2 (exN f0 f1 f2) 30)) (wr IntKind.i64 (0 - divPV f1 (exN f0 f1 f2) 30)) (divPV f0 (exN f0 f1 f2) 30) 0 := by
    unfold tV3; rw [cond_f hz, eu _ i0, eu _ i1, eu _ i2]
  obtain ⟨r0, g0, -⟩ := dpass c2.1 c2.2 (show 1 ≤ exN f0 f1 f2 by omega) (by omega)
  obtain ⟨r1, g1, -⟩ := dpass c3.1 c3.2 (show 1 ≤ exN f0 f1 f2 by omega) (by omega)
  obtain ⟨r2, g2, -⟩ := dpass c4.1 c4.2 (show 1 ≤ exN f0 f1 f2 by omega) (by omega)
  rw [t0, t1, t2, t3]
  clear t0 t1 t2 t3 eu hz ev i0 i1 i2
  generalize divPV f0 (exN f0 f1 f2) 30 = u0 at *
  generalize divPV f1 (exN f0 f1 f2) 30 = u1 at *
  generalize divPV f2 (exN f0 f1 f2) 30 = u2 at *
  generalize exN f0 f1 f2 = n at *
  have e2 : wr IntKind.i64 (1073741824 - u2) = 1073741824 - u2 := w64_in (by omega) (by omega)
  have e1 : wr IntKind.i64 (0 - u1) = -u1 := by have h : wr IntKind.i64 (0 - u1) = 0 - u1 := w64_in (by omega) (by omega); omega
  have c7 : n * n - n < f0 * f0 + (f1 * f1 + f2 * f2) := c6.resolve_left (by omega)
  rw [e2, e1]
  refine ⟨rfl, ?_⟩
  by_cases hw : 1073741824 - u2 ≤ 16
  · rw [decide_eq_true hw, cond_t rfl, cond_t rfl, cond_t rfl, cond_t rfl, satV_S (show inS 0 by unfold inS; omega), satV_S (show inS 1073741824 by unfold inS; omega)]
    refine ⟨fun _ => ?_, fun h => absurd (show 1073741824 - u2 < 1048576 by omega) h⟩
    have k := tilt_flip (u0 := u0) (u1 := u1) (u2 := u2) (by unfold nb; omega) (by unfold nb; omega) (by unfold nb; omega)
    unfold nb at k; omega
  · have hu := unit_ok (1073741824 - u2) (-u1) u0 0
    rw [decide_eq_false hw, cond_f rfl, cond_f rfl, cond_f rfl, cond_f rfl, satV_S (inS_bd hu.ha), satV_S (inS_bd hu.hb), satV_S (inS_bd hu.hc), satV_S (inS_bd hu.hd)]
    obtain ⟨k0, k1⟩ := tilt_all (f0 := f0) (f1 := f1) (f2 := f2) (n := n) (u0 := u0) (u1 := u1) (u2 := u2) (by omega) (by unfold nb; omega) (by unfold nb; omega) (by unfold nb; omega) r0 r1 r2 (by unfold nb; omega) (by unfold nb; omega) (by unfold nb; omega) c7 c5 (by omega) rfl rfl rfl rfl
    refine ⟨fun _ => ?_, fun h => ?_⟩
    · unfold nb at k0; omega
    · obtain ⟨k2, k3⟩ := k1 (by omega)
      unfold nr3
      rw [nr1_ok (m := 4096) (by unfold nb at *; omega) (by omega), nr1_ok (m := 4096) (by unfold nb at *; omega) (by omega), nr1_ok (m := 4096) (by unfold nb at *; omega) (by omega)]
      rfl
theorem lawRotTilts (f0 f1 f2 : Int) (w : World) :
    Calls Try.prog 9 ([.v (.agg [.int .i64 f0, .int .i64 f1, .int .i64 f2])].map (LV.den E0)).toArray w fun e w' => e = .returned (.bool true) ∧ Below w.heap.size w w' := by
  have T : ∀ {c : Prop} [Decidable c] {l : List (Bool × Bool)} {n : Nat}, c → (∀ d ∈ l, d.1 = d.2) → ∀ d ∈ ra n (decide c, true) l, d.1 = d.2 := fun h hl => ra_ok (decide_eq_true h) hl _
  have F : ∀ {c : Prop} [Decidable c] {l : List (Bool × Bool)} {n : Nat}, ¬ c → (∀ d ∈ l, d.1 = d.2) → ∀ d ∈ ra n (decide c, false) l, d.1 = d.2 := fun h hl => ra_ok (decide_eq_false h) hl _
  have Z : ∀ d ∈ ([] : List (Bool × Bool)), d.1 = d.2 := by simp
  by_cases x0 : f0 < -549755813888
  · exact law_true sound55 (tiA f0 f1 f2) rfl (T x0 Z) rfl w
  by_cases x1 : f0 > 549755813888
  · exact law_true sound55 (tiB f0 f1 f2) rfl (T x1 (F x0 Z)) rfl w
  by_cases x2 : f1 < -549755813888
  · exact law_true sound55 (tiC f0 f1 f2) rfl (T x2 (F x1 (F x0 Z))) rfl w
  by_cases x3 : f1 > 549755813888
  · exact law_true sound55 (tiD f0 f1 f2) rfl (T x3 (F x2 (F x1 (F x0 Z)))) rfl w
  by_cases x4 : f2 < -549755813888
  · exact law_true sound55 (tiE f0 f1 f2) rfl (T x4 (F x3 (F x2 (F x1 (F x0 Z))))) rfl w
  by_cases x5 : f2 > 549755813888
  · exact law_true sound55 (tiF f0 f1 f2) rfl (T x5 (F x4 (F x3 (F x2 (F x1 (F x0 Z)))))) rfl w
  by_cases x6 : hypV [f0, f1, f2] < 16777216
  · exact law_true sound55 (tiG f0 f1 f2) rfl (T x6 (F x5 (F x4 (F x3 (F x2 (F x1 (F x0 Z))))))) rfl w
  obtain ⟨e, k0, k1⟩ := ti_all (f0 := f0) (f1 := f1) (f2 := f2) (by unfold nb; omega) (by unfold nb; omega) (by unfold nb; omega) x6
  rw [← e] at k0 k1
  by_cases x7 : wr IntKind.i64 (1073741824 - divPV f2 (hypV [f0, f1, f2]) 30) < 1048576
  · exact law_true sound55 (tiH f0 f1 f2) (decide_eq_true (k0 x7)) (T x7 (F x6 (F x5 (F x4 (F x3 (F x2 (F x1 (F x0 Z)))))))) rfl w
  · exact law_true sound55 (tiI f0 f1 f2) rfl (ra_ok (k1 x7) (F x7 (F x6 (F x5 (F x4 (F x3 (F x2 (F x1 (F x0 Z)))))))) _) rfl w

end Go.Proofs.Ytaebmggjhjobnaa

/- Opening an array of numbers that a law is handed (the seventh form's data). -/
namespace Go.Lr
open Go.ChangeShapes Go.WideShapes Go.ChangeAt Go.RowKit

section
variable {H : Type} {enc : TypeId × Value → H} {P : Program} {k e : TypeId} {W : World} {base : Nat} {sp : Nat → Bool} {held : Bool}

theorem mapM_ints (he : P.underlying e = some (.int .i64)) {m : Nat} {cs : List Value} : ∀ (L : List Nat) (xs : List (DataW H × List MemPlace)),
    L.mapM (fun i => DataW.trod enc P W base sp held m e ((cs.drop (i * 1)).take 1)) = some xs →
    ∃ zs : List Int, zs.length = L.length ∧ xs = zs.map (fun z => (.lit (.int .i64 z), [])) ∧ (∀ z ∈ zs, (Lit.int .i64 z).wf = true) ∧
      (∀ (j : Nat) (h : j < L.length) (h' : j < zs.length), (cs.drop (L[j] * 1)).take 1 = [.int .i64 zs[j]]) ∧
      ∀ (W' : World) (base' : Nat) (sp' : Nat → Bool), L.mapM (fun i => DataW.trod enc P W' base' sp' held m e ((cs.drop (i * 1)).take 1)) = some xs
  | [], xs, h => by
    simp at h
    subst h
    exact ⟨[], rfl, rfl, by simp, by simp, fun _ _ _ => rfl⟩
  | i :: L, xs, h => by
    rw [List.mapM_cons] at h
    simp only [bind, Option.bind_eq_some_iff, pure, Option.some.injEq] at h
    obtain ⟨y, hy, ys, hys, rfl⟩ := h
    obtain ⟨zs, h1, rfl, h2, h3, h4⟩ := mapM_ints he L ys hys
    obtain ⟨a, ea, rfl, wa⟩ := DataW.trod_int he hy
    refine ⟨a :: zs, by simp [h1], rfl, ?_, ?_, fun W' base' sp' => ?_⟩
    · intro z hz
      rcases List.mem_cons.1 hz with rfl | hz
      · exact wa
      · exact h2 z hz
    · intro j hj hj'
      cases j with
      | zero => exact ea
      | succ j => exact h3 j (by simpa using hj) (by simpa using hj')
    · rw [List.mapM_cons, h4 W' base' sp']
      have hw : DataW.trod enc P W' base' sp' held m e ((cs.drop (i * 1)).take 1) = some (.lit (.int .i64 a), []) := by
        rw [ea] at hy ⊢
        cases m with
        | zero => simp [DataW.trod] at hy
        | succ m => simp [DataW.trod, he, wa]
      rw [hw]
      rfl

theorem open_arr {n : Nat} (hk : P.underlying k = some (.array n e)) (he : P.underlying e = some (.int .i64)) (hc : P.cellsOf k = n) (hce : P.cellsOf e = 1) {r : Reach} {b0 : Nat} {v : Value} {d : DataW H} {ps : List MemPlace}
    (hval : Value.okWide P W r b0 k v) (hd : DataW.Trod enc P W base sp held k v d ps) :
    ∃ zs : List Int, zs.length = n ∧ v = .agg (zs.map (Value.int .i64)).toArray ∧ ps = [] ∧ (∀ z ∈ zs, (Lit.int .i64 z).wf = true) ∧ ∀ (W' : World) (base' : Nat) (sp' : Nat → Bool), DataW.Trod enc P W' base' sp' held k v d [] := by
  simp only [Value.okWide, hk] at hval
  obtain ⟨cs, rfl, hs, -⟩ := hval
  rw [hc] at hs
  obtain ⟨fuel, hf⟩ := hd
  cases fuel with
  | zero => simp [DataW.trod] at hf
  | succ m =>
    rw [DataW.trod_step] at hf
    unfold DataW.trodStep at hf
    simp only [hk, Value.cells, hc, hce] at hf
    have hl : cs.toList.length = n := by simpa using hs
    rw [if_pos hl] at hf
    simp only [Option.map_eq_some_iff] at hf
    obtain ⟨ys, hy, e1⟩ := hf
    obtain ⟨zs, h1, rfl, h2, h3, h4⟩ := mapM_ints he _ ys hy
    rw [List.length_range] at h1
    simp only [Prod.mk.injEq] at e1
    have hcs : cs.toList = zs.map (Value.int .i64) := by
      refine List.ext_getElem (by simp [hl, h1]) fun j hj hj' => ?_
      have h := h3 j (by simpa using (show j < n by omega)) (by omega)
      rw [List.getElem_range, Nat.mul_one] at h
      have h5 : ((cs.toList.drop j).take 1)[0]? = some (Value.int .i64 zs[j]) := by rw [h]; rfl
      rw [List.getElem?_take, if_pos (by decide), List.getElem?_drop, Nat.add_zero, List.getElem?_eq_getElem hj] at h5
      simpa using h5
    refine ⟨zs, h1, by rw [← hcs], by rw [← e1.2]; simp [List.flatMap_eq_nil_iff], h2, fun W' base' sp' => ⟨m + 1, ?_⟩⟩
    rw [DataW.trod_step]
    unfold DataW.trodStep
    simp only [hk, Value.cells, hc, hce]
    rw [if_pos hl, h4 W' base' sp']
    simp only [Option.map_some, Option.some.injEq, Prod.mk.injEq]
    exact ⟨e1.1, by simp [List.flatMap_eq_nil_iff]⟩
end
end Go.Lr

/- Opening a struct of numbers that a law is handed. -/
namespace Go.Lr
open Go.ChangeShapes Go.WideShapes Go.ChangeAt Go.RowKit

section
variable {H : Type} {enc : TypeId × Value → H} {P : Program} {held : Bool}

/-- A type of so many whole numbers of 64 bits, one after the other. -/
def PlainT (enc : TypeId × Value → H) (P : Program) (held : Bool) (t : TypeId) (n : Nat) : Prop :=
  P.cellsOf t = n ∧ ∀ (W : World) (base : Nat) (sp : Nat → Bool) (m : Nat) (cs : List Value) (x : DataW H × List MemPlace), DataW.trod enc P W base sp held m t cs = some x →
    ∃ zs : List Int, zs.length = n ∧ cs = zs.map (Value.int .i64) ∧ x.2 = [] ∧ (∀ z ∈ zs, (Lit.int .i64 z).wf = true) ∧ ∀ (W' : World) (base' : Nat) (sp' : Nat → Bool), DataW.trod enc P W' base' sp' held m t cs = some x

theorem plain_int {t : TypeId} (ht : P.underlying t = some (.int .i64)) (hc : P.cellsOf t = 1) : PlainT enc P held t 1 := by
  refine ⟨hc, fun W base sp m cs x h => ?_⟩
  obtain ⟨a, rfl, rfl, wa⟩ := DataW.trod_int ht h
  refine ⟨[a], rfl, rfl, rfl, by simpa using wa, fun W' base' sp' => ?_⟩
  cases m with
  | zero => simp [DataW.trod] at h
  | succ m => simp [DataW.trod, ht, wa]

theorem plain_struct2 {t : TypeId} {fs : Array Field} {f0 f1 : Field} {n0 n1 : Nat} (ht : P.underlying t = some (.struct fs)) (hfs : fs.toList = [f0, f1]) (h0 : f0.offset = 0) (h1 : f1.offset = n0)
    (p0 : PlainT enc P held f0.type n0) (p1 : PlainT enc P held f1.type n1) (hc : P.cellsOf t = n0 + n1) : PlainT enc P held t (n0 + n1) := by
  refine ⟨hc, fun W base sp m cs x h => ?_⟩
  obtain ⟨c0, q0⟩ := p0
  obtain ⟨c1, q1⟩ := p1
  cases m with
  | zero => simp [DataW.trod] at h
  | succ m =>
    rw [DataW.trod_step] at h
    unfold DataW.trodStep at h
    simp only [ht] at h
    split at h
    · rename_i hl
      rw [hc] at hl
      simp only [hfs, List.mapM_cons, List.mapM_nil, bind, pure, h0, h1, c0, c1, List.drop_zero, Option.map_eq_some_iff, Option.bind_eq_some_iff, Option.some.injEq] at h
      obtain ⟨xs, ⟨y0, g0, ys, ⟨y1, g1, r, rfl, rfl⟩, rfl⟩, rfl⟩ := h
      obtain ⟨z0, a1, a2, a3, a4, a5⟩ := q0 _ _ _ _ _ _ g0
      obtain ⟨z1, b1, b2, b3, b4, b5⟩ := q1 _ _ _ _ _ _ g1
      have hcs : cs = (z0 ++ z1).map (Value.int .i64) := by
        rw [List.map_append, ← a2, ← b2, List.take_of_length_le (l := cs.drop n0) (by rw [List.length_drop]; omega), List.take_append_drop]
      refine ⟨z0 ++ z1, by simp [a1, b1], hcs, by simp [a3, b3], ?_, fun W' base' sp' => ?_⟩
      · intro z hz
        rcases List.mem_append.1 hz with hz | hz
        · exact a4 z hz
        · exact b4 z hz
      · rw [DataW.trod_step]
        unfold DataW.trodStep
        simp only [ht]
        rw [if_pos (by rw [hc]; exact hl)]
        simp only [hfs, List.mapM_cons, List.mapM_nil, bind, pure, h0, h1, c0, c1, List.drop_zero, a5 W' base' sp', b5 W' base' sp', Option.bind_some, Option.map_some]
    · cases h

/-- The two fields of a struct: their types, their places. -/
def twoF (P : Program) (t : TypeId) : Option (TypeId × Nat × TypeId × Nat) :=
  match P.underlying t with
  | some (.struct fs) => match fs.toList with
    | [f0, f1] => some (f0.type, f0.offset, f1.type, f1.offset)
    | _ => none
  | _ => none
theorem plain_two {t t0 t1 : TypeId} {n0 n1 : Nat} (h : twoF P t = some (t0, 0, t1, n0)) (p0 : PlainT enc P held t0 n0) (p1 : PlainT enc P held t1 n1) (hc : P.cellsOf t = n0 + n1) : PlainT enc P held t (n0 + n1) := by
  unfold twoF at h
  split at h
  · rename_i fs hu
    split at h
    · rename_i f0 f1 hl
      simp only [Option.some.injEq, Prod.mk.injEq] at h
      obtain ⟨rfl, h0, rfl, h1⟩ := h
      exact plain_struct2 hu hl h0 h1 p0 p1 hc
    · cases h
  · cases h
def isStruct (P : Program) (t : TypeId) : Bool :=
  match P.underlying t with
  | some (.struct _) => true
  | _ => false
theorem isStruct_spec {t : TypeId} (h : isStruct P t = true) : ∃ fs, P.underlying t = some (.struct fs) := by
  unfold isStruct at h
  split at h
  · rename_i fs hu; exact ⟨fs, hu⟩
  · cases h

theorem open_plain {t : TypeId} {n : Nat} (hs : isStruct P t = true) (hp : PlainT enc P held t n) {W : World} {base : Nat} {sp : Nat → Bool} {r : Reach} {b0 : Nat} {v : Value} {d : DataW H} {ps : List MemPlace}
    (hval : Value.okWide P W r b0 t v) (hd : DataW.Trod enc P W base sp held t v d ps) :
    ∃ zs : List Int, zs.length = n ∧ v = .agg (zs.map (Value.int .i64)).toArray ∧ ps = [] ∧ (∀ z ∈ zs, (Lit.int .i64 z).wf = true) ∧ ∀ (W' : World) (base' : Nat) (sp' : Nat → Bool), DataW.Trod enc P W' base' sp' held t v d [] := by
  obtain ⟨fs, ht⟩ := isStruct_spec hs
  simp only [Value.okWide, ht] at hval
  obtain ⟨cs, rfl, hsz, -⟩ := hval
  obtain ⟨fuel, hf⟩ := hd
  obtain ⟨zs, h1, h2, h3, h4, h5⟩ := hp.2 _ _ _ _ _ _ hf
  simp only [Value.cells] at h2 h5
  simp only at h3
  subst h3
  exact ⟨zs, h1, by rw [← h2], rfl, h4, fun W' base' sp' => ⟨fuel, h5 W' base' sp'⟩⟩
end
end Go.Lr
