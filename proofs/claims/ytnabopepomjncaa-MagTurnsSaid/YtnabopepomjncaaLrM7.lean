/- Joined texts. What each part proves stands ahead of it; no condition. -/
import Derived.Test.YtnabopepomjncaaLrM6
import Derived.Test.YtnabopepomjncaaLrM5

/- Level and Heading of a level attitude, in plain numbers. -/
namespace Go.Proofs.Ytnabopepomjncaa
open Go.Lr Go.RowKit Go.Tg
set_option linter.unusedVariables false
set_option linter.unusedSimpArgs false

theorem div_near {w u : Int} (hu : 1 ≤ u) : nb (2 * (divV w u * u - w)) u := by
  have odd : ∀ w : Int, divV (-w) u = -divV w u := by
    intro w
    unfold divV
    rw [absV_negate]
    have hu' : decide (u < 0) = false := by simp; omega
    rw [hu']
    by_cases g0 : w = 0
    · subst g0
      have : quoR (absV 0) (absV u) = 0 := by
        rw [show absV 0 = 0 from rfl]
        exact quoR_zero (by unfold absV; split <;> omega)
      rw [this]; rfl
    · by_cases g1 : w < 0
      · have e1 : decide (w < 0) = true := by simpa using g1
        have e2 : decide (-w < 0) = false := by simp; omega
        rw [e1, e2]; unfold sgn; simp
      · have e1 : decide (w < 0) = false := by simp; omega
        have e2 : decide (-w < 0) = true := by simp; omega
        rw [e1, e2]; unfold sgn; simp
  by_cases h : 0 ≤ w
  · rw [div_pos h (by omega)]; exact quo_bd h (by omega)
  · have k := quo_bd (a := -w) (b := u) (by omega) (by omega)
    rw [← div_pos (a := -w) (b := u) (by omega) (by omega), odd, Int.neg_mul] at k
    unfold nb; omega
theorem md_f {x : Int} (h : nb x 2000000) : nb (2 * (mulDivV x 1073741824 1000000 * 1000000 - x * 1073741824)) 1000000 ∧ nb (mulDivV x 1073741824 1000000) 2147483648 ∧ mulDivH x 1073741824 1000000 = false := by
  have d := div_near (w := x * 1073741824) (u := 1000000) (by omega)
  unfold nb at h
  have b : nb (divV (x * 1073741824) 1000000) 2147483648 := by unfold nb at *; omega
  have b' := b
  unfold nb at b'
  unfold mulDivV mulDivH byV byH
  rw [sat_in (a := x) (by omega) (by omega), sat_in (a := 1073741824) (by omega) (by omega), sat_in (a := 1000000) (by omega) (by omega), satH_in (a := x) (by omega) (by omega), satH_in (a := 1073741824) (by omega) (by omega), satH_in (a := 1000000) (by omega) (by omega), if_neg (by omega), sat_in (a := divV (x * 1073741824) 1000000) (by omega) (by omega), satH_in (a := divV (x * 1073741824) 1000000) (by omega) (by omega)]
  exact ⟨d, b, rfl⟩
theorem fy_dir (a : Int) : nb (fy3 a * CG (fyA a) - fy0 a * SG (fyA a)) 2684354560 ∧ 0 ≤ fy0 a * CG (fyA a) + fy3 a * SG (fyA a) ∧ nb (2 * fyA a - wrapV a) 1 ∧ ∀ h, fyFl h a = h := by
  obtain ⟨w0, w1, -⟩ := wrap_spec a
  have hm := mul30 (a := wrapV a) (b := 536870912) (by unfold nb; omega) (by unfold nb; omega)
  have h2 : nb (2 * fyA a - wrapV a) 1 := by unfold fyA; unfold nb at *; omega
  have hA : nb (fyA a) 1152921504606846976 := by unfold nb at *; omega
  have hcd : uV0 (cosV (fyA a)) 0 0 (sinV (fyA a)) = fy0 a ∧ uV3 (cosV (fyA a)) 0 0 (sinV (fyA a)) = fy3 a := ⟨rfl, rfl⟩
  rw [cosV_eq, sinV_eq hA] at hcd
  have oc := on_circle (fyA a)
  have cb := CG_bd (fyA a)
  have sb := SG_bd (fyA a)
  obtain ⟨d1, d2, d3⟩ := unit_dir (a := CG (fyA a)) (d := SG (fyA a)) (cb.le (by omega)) (sb.le (by omega)) (by unfold nb at oc; omega) (by unfold nb at oc; omega)
  rw [hcd.1, hcd.2] at d1
  rw [hcd.1] at d2
  rw [hcd.2] at d3
  refine ⟨d1, by omega, h2, ?_⟩
  intro h
  unfold fyFl
  rw [mulH30 (by unfold nb; omega) (by unfold nb; omega), cosH_ok, sinH_ok hA, cosV_eq, sinV_eq hA, Bool.or_false]
  exact unit_fl (cb.le (by omega)) (nb0 (by omega)) (nb0 (by omega)) (sb.le (by omega))
theorem uq_nn {a d : Int} (h : UnitQ a 0 0 d) : nb a 1073741824 ∧ nb d 1073741824 ∧ nb (a * a + d * d - 1152921504606846976) 4294967296 := by
  refine ⟨h.ha, h.hd, ?_⟩
  have hn := h.hn
  unfold nearU n4 at hn
  unfold nb; omega
theorem field_L {x y X Y : Int} (hx : nb (2 * (X * 1000000 - x * 1073741824)) 1000000) (hy : nb (2 * (Y * 1000000 - y * 1073741824)) 1000000) (bx : nb X 2147483648) (bY : nb Y 2147483648) (h : 10000000000 ≤ x * x + y * y) :
    75000000 ≤ mxB Y X ∧ mxB Y X ≤ 2147483648 ∧ mxB Y X * mxB Y X ≤ X * X + Y * Y ∧ mxB Y X * mxB Y X = mxB Y X * mxB Y X := by
  obtain ⟨m1, m2, m3, m4, m5⟩ := mxB_f Y X
  have q : ∀ {t : Int}, nb t 70710 → t * t ≤ 4999904100 := by
    intro t ht
    have := ht.mul ht
    unfold nb at this; omega
  refine ⟨?_, ?_, m3, rfl⟩
  · by_cases h1 : nb x 70710
    · by_cases h2 : nb y 70710
      · exfalso
        have := q h1
        have := q h2
        omega
      · clear h q m3 m5
        unfold nb at *; omega
    · clear h q m3 m5
      unfold nb at *; omega
  · rcases m5 with e | e <;> rw [e] <;> unfold absV <;> unfold nb at bx bY <;> split <;> omega
theorem LL_le {X Y : Int} : mxB Y X * mxB Y X ≤ X * X + Y * Y := (mxB_f Y X).2.2.1
/-- What Level makes of a level attitude. -/
theorem lev_ok {a d X Y Z L dc : Int} (hu : UnitQ a 0 0 d) (hL : 75000000 ≤ L) (hL1 : L ≤ 2147483648) (hX : nb X L) (hY : nb Y L) (hZ : nb Z 2147483648) (hLL : L * L ≤ X * X + Y * Y) (hdc : nb dc 1073741824) :
    lvC a 0 0 d X Y Z = false ∧ (∀ h, lvH h a 0 0 d X Y Z dc = h) ∧ lvA a 0 0 d X Y Z dc = wrapV (dc - atanV (lvY a 0 0 d X Y Z) (lvX a 0 0 d X Y Z)) ∧ subH dc (ptV (lvX a 0 0 d X Y Z) (lvY a 0 0 d X Y Z)) = false ∧ (∀ h, ptH h (lvX a 0 0 d X Y Z) (lvY a 0 0 d X Y Z) = h) ∧
    nb (2 * (lvX a 0 0 d X Y Z * 1073741824 - (rm0 a 0 0 d * X - rm3 a 0 0 d * Y))) 1073741824 ∧ nb (2 * (lvY a 0 0 d X Y Z * 1073741824 - (rm3 a 0 0 d * X + rm0 a 0 0 d * Y))) 1073741824 := by
  obtain ⟨c1, c2, -, -, -, -, -, -, -, -, -, cf⟩ := lev_m hu
  obtain ⟨bx, bY, f1, f2, f3⟩ := lev_f hu (hX.le hL1) (hY.le hL1) hZ
  obtain ⟨ea, eb⟩ := mt_A hL hX hY c1 c2 bx bY
  obtain ⟨-, -, nn⟩ := uq_nn hu
  have hMf : (a * a - d * d) * (a * a - d * d) + 2 * (a * d) * (2 * (a * d)) = (a * a + d * d) * (a * a + d * d) := by grind
  obtain ⟨b1, b2, low⟩ := mt_M hL nn hMf hX hY hLL ea eb
  have sa := satV_S (inS_bd hu.ha)
  have sd := satV_S (inS_bd hu.hd)
  have s0 : satV 0 = 0 := by rw [sat_in (by omega) (by omega)]
  have ta := satH_S (inS_bd hu.ha)
  have td := satH_S (inS_bd hu.hd)
  have t0 : satH 0 = false := satH_in (by omega) (by omega)
  have ex : lvX a 0 0 d X Y Z = dotV 30 [rm0 a 0 0 d, rm1 a 0 0 d, rm2 a 0 0 d] [X, Y, Z] := by unfold lvX; rw [sa, sd, s0]
  have ey : lvY a 0 0 d X Y Z = dotV 30 [rm3 a 0 0 d, rm4 a 0 0 d, rm5 a 0 0 d] [X, Y, Z] := by unfold lvY; rw [sa, sd, s0]
  rw [← ex] at bx ea b1 low
  rw [← ey] at bY eb b2 low
  have hx9 : nb (lvX a 0 0 d X Y Z) 4294967296 := by unfold nb at b1 ⊢; omega
  have hy9 : nb (lvY a 0 0 d X Y Z) 4294967296 := by unfold nb at b2 ⊢; omega
  obtain ⟨m1, m2, m3, m4, m5⟩ := mxB_f (lvY a 0 0 d X Y Z) (lvX a 0 0 d X Y Z)
  have lo := mxB_lo hL m1 m2 low
  obtain ⟨h1, h2, h3⟩ := hyp2 (a := lvX a 0 0 d X Y Z) (b := lvY a 0 0 d X Y Z) (hx9.le (by omega)) (hy9.le (by omega))
  have big : ¬ hypV [lvX a 0 0 d X Y Z, lvY a 0 0 d X Y Z] < 16777216 := by
    generalize hypV [lvX a 0 0 d X Y Z, lvY a 0 0 d X Y Z] = hh at *
    rcases m5 with e | e <;> rw [e] at lo <;> unfold absV at lo <;> split at lo <;> omega
  have hC : lvC a 0 0 d X Y Z = false := by unfold lvC; exact decide_eq_false big
  have ne : lvY a 0 0 d X Y Z ≠ 0 ∨ lvX a 0 0 d X Y Z ≠ 0 := by
    by_cases e1 : lvY a 0 0 d X Y Z = 0
    · by_cases e2 : lvX a 0 0 d X Y Z = 0
      · exfalso
        rw [e1, e2] at low
        have l1 := Int.mul_le_mul hL hL (by omega) (by omega)
        generalize L * L = q at *; omega
      · exact .inr e2
    · exact .inl e1
  obtain ⟨ab, -⟩ := atan_sg (hy9.le (by omega)) (hx9.le (by omega)) ne
  have ep : ptV (lvX a 0 0 d X Y Z) (lvY a 0 0 d X Y Z) = atanV (lvY a 0 0 d X Y Z) (lvX a 0 0 d X Y Z) := by
    unfold ptV; rw [decide_eq_false big]; rfl
  obtain ⟨k1, k2⟩ := sub_mid (a := dc) (b := atanV (lvY a 0 0 d X Y Z) (lvX a 0 0 d X Y Z)) (by unfold nb at hdc; omega) (by unfold nb at ab; omega)
  have pH : ∀ h, ptH h (lvX a 0 0 d X Y Z) (lvY a 0 0 d X Y Z) = h := by
    intro h
    unfold ptH
    rw [decide_eq_false big, h3, Bool.or_false]
    exact atanH_ok (hy9.le (by omega)) (hx9.le (by omega))
  refine ⟨hC, ?_, ?_, ?_, pH, bx, bY⟩
  · intro h
    unfold lvH
    rw [sa, sd, s0, ta, td, t0, cf, f1, f2, f3]
    simp only [Bool.or_false]
    exact pH h
  · unfold lvA; rw [ep, k1]
  · rw [ep]; exact k2
theorem mt_core {X Y Z L dc f0 f3 g0 g3 k : Int} (hL : 75000000 ≤ L) (hL1 : L ≤ 2147483648) (hX : nb X L) (hY : nb Y L) (hZ : nb Z 2147483648) (hLL : L * L ≤ X * X + Y * Y) (hdc : nb dc 1073741824) (uf : UnitQ f0 0 0 f3) (ug : UnitQ g0 0 0 g3)
    (hgw : nb (g3 * CG k - g0 * SG k) 2684354560) (hgv : 0 ≤ g0 * CG k + g3 * SG k) (hk : nb (2 * k - wrapV (dc - atanV (lvY f0 0 0 f3 X Y Z) (lvX f0 0 0 f3 X Y Z))) 1) :
    mq1 g0 0 0 g3 f0 0 0 f3 = 0 ∧ mq2 g0 0 0 g3 f0 0 0 f3 = 0 ∧ (∀ h, mulQH h g0 0 0 g3 f0 0 0 f3 = h) ∧ (∀ h, uFl h (mq0 g0 0 0 g3 f0 0 0 f3) 0 0 (mq3 g0 0 0 g3 f0 0 0 f3) = h) ∧
    UnitQ (uV0 (mq0 g0 0 0 g3 f0 0 0 f3) 0 0 (mq3 g0 0 0 g3 f0 0 0 f3)) 0 0 (uV3 (mq0 g0 0 0 g3 f0 0 0 f3) 0 0 (mq3 g0 0 0 g3 f0 0 0 f3)) ∧
    nb (wrapV (dc - atanV (lvY (uV0 (mq0 g0 0 0 g3 f0 0 0 f3) 0 0 (mq3 g0 0 0 g3 f0 0 0 f3)) 0 0 (uV3 (mq0 g0 0 0 g3 f0 0 0 f3) 0 0 (mq3 g0 0 0 g3 f0 0 0 f3)) X Y Z) (lvX (uV0 (mq0 g0 0 0 g3 f0 0 0 f3) 0 0 (mq3 g0 0 0 g3 f0 0 0 f3)) 0 0 (uV3 (mq0 g0 0 0 g3 f0 0 0 f3) 0 0 (mq3 g0 0 0 g3 f0 0 0 f3)) X Y Z))) 1023 := by
  have sm0 : sm 0 := by unfold sm; omega
  obtain ⟨e0, e1, e2, e3, ef⟩ := mq_eq (one.sm ug.ha) sm0 sm0 (one.sm ug.hd) (one.sm uf.ha) sm0 sm0 (one.sm uf.hd)
  have r0 : rndV 0 30 = 0 := by kernel_rfl
  have i0 : q0 g0 0 0 g3 f0 0 0 f3 = g0 * f0 - g3 * f3 := by unfold q0; omega
  have i1 : q1 g0 0 0 g3 f0 0 0 f3 = 0 := by unfold q1; simp
  have i2 : q2 g0 0 0 g3 f0 0 0 f3 = 0 := by unfold q2; simp
  have i3 : q3 g0 0 0 g3 f0 0 0 f3 = g0 * f3 + g3 * f0 := by unfold q3; omega
  rw [i0] at e0
  rw [i3] at e3
  rw [i1, r0] at e1
  rw [i2, r0] at e2
  have h0 := rn30 (g0 * f0 - g3 * f3)
  have h3 := rn30 (g0 * f3 + g3 * f0)
  rw [← e0] at h0
  rw [← e3] at h3
  refine ⟨e1, e2, ef, ?_⟩
  clear e0 e1 e2 e3 ef i0 i1 i2 i3
  generalize mq0 g0 0 0 g3 f0 0 0 f3 = r0' at *
  generalize mq3 g0 0 0 g3 f0 0 0 f3 = r3' at *
  obtain ⟨f1, f2, f3'⟩ := uq_nn uf
  obtain ⟨g1, g2, g3'⟩ := uq_nn ug
  obtain ⟨E0, E3, EN, br0, br3⟩ := mt_E g1 g2 f1 f2 rfl rfl h0 h3
  have nr := mt_nr g3' f3' EN
  have hr0 : nb r0' 1084000000 := by
    have q1 := sqnn0 r3'
    refine nb_sq (by omega) ?_
    unfold nb at nr; omega
  have hr3 : nb r3' 1084000000 := by
    have q1 := sqnn0 r0'
    refine nb_sq (by omega) ?_
    unfold nb at nr; omega
  obtain ⟨d1, d2, d3⟩ := unit_dir hr0 hr3 (by unfold nb at nr; omega) (by unfold nb at nr; omega)
  have up := unit_ok r0' 0 0 r3'
  have z := unit_z r0' r3'
  rw [z.1, z.2] at up
  refine ⟨fun h => unit_fl (hr0.le (by omega)) (nb0 (by omega)) (nb0 (by omega)) (hr3.le (by omega)), up, ?_⟩
  generalize uV0 r0' 0 0 r3' = p0 at *
  generalize uV3 r0' 0 0 r3' = p3 at *
  obtain ⟨p1, p2, p3'⟩ := uq_nn up
  obtain ⟨c1, c2, -⟩ := lev_m uf
  obtain ⟨c3, c4, -⟩ := lev_m up
  obtain ⟨-, -, -, -, -, x1, y1⟩ := lev_ok uf hL hL1 hX hY hZ hLL hdc
  obtain ⟨-, -, -, -, -, x2, y2⟩ := lev_ok up hL hL1 hX hY hZ hLL hdc
  exact mt_num hL hL1 hX hY hLL f1 f2 f3' g1 g2 g3' p3' c1 c2 x1 y1 h0 h3 d1 (by omega) c3 c4 x2 y2 hgw hgv hk
/-- Heading's own flags. -/
theorem hd_fl {p0 p3 : Int} (hu : UnitQ p0 0 0 p3) (c s : Int) (hc : c = rm0 p0 0 0 p3) (hs : s = rm3 p0 0 0 p3) :
    hypH [c, s] = false ∧ ¬ hypV [c, s] < 16777216 ∧ dotH 30 [c, s] [c, s] = false ∧ faddH [p0, p0] = false ∧ faddH [p3, p3] = false ∧ faddH [0, 0] = false ∧
    dotH 30 [c, wr IntKind.i64 (0 - s)] [faddV [p3, p3], faddV [p0, p0]] = false ∧ divPH (dotV 30 [c, wr IntKind.i64 (0 - s)] [faddV [p3, p3], faddV [p0, p0]]) (dotV 30 [c, s] [c, s]) 30 = false ∧
    dotH 30 [c, wr IntKind.i64 (0 - s)] [faddV [0, 0], faddV [0, 0]] = false ∧ divPH (dotV 30 [c, wr IntKind.i64 (0 - s)] [faddV [0, 0], faddV [0, 0]]) (dotV 30 [c, s] [c, s]) 30 = false ∧
    dotH 30 [c, wr IntKind.i64 (0 - s)] [faddV [0, 0], wr IntKind.i64 (0 - faddV [0, 0])] = false ∧ divPH (dotV 30 [c, wr IntKind.i64 (0 - s)] [faddV [0, 0], wr IntKind.i64 (0 - faddV [0, 0])]) (dotV 30 [c, s] [c, s]) 30 = false ∧
    dotH 30 [c, wr IntKind.i64 (0 - s)] [faddV [p0, p0], wr IntKind.i64 (0 - faddV [p3, p3])] = false ∧ divPH (dotV 30 [c, wr IntKind.i64 (0 - s)] [faddV [p0, p0], wr IntKind.i64 (0 - faddV [p3, p3])]) (dotV 30 [c, s] [c, s]) 30 = false := by
  obtain ⟨c1, c2, -, -, -, -, -, -, -, b0, b3, -⟩ := lev_m hu
  rw [← hc] at c1 b0
  rw [← hs] at c2 b3
  obtain ⟨g0, g3, gn⟩ := uq_nn hu
  clear hc hs hu
  have hMp : (p0 * p0 - p3 * p3) * (p0 * p0 - p3 * p3) + 2 * (p0 * p3) * (2 * (p0 * p3)) = (p0 * p0 + p3 * p3) * (p0 * p0 + p3 * p3) := by grind
  have hcs : 864691128455135232 ≤ c * c + s * s ∧ c * c + s * s ≤ 1441151880758558720 := by
    have q1 := sqnn0 p0
    have q2 := sqnn0 p3
    have q3 := sqnn0 (p0 - p3)
    have q4 := sqnn0 (p0 + p3)
    have j1 : (p0 - p3) * (p0 - p3) = p0 * p0 + p3 * p3 - 2 * (p0 * p3) := by grind
    have j2 : (p0 + p3) * (p0 + p3) = p0 * p0 + p3 * p3 + 2 * (p0 * p3) := by grind
    rw [j1] at q3
    rw [j2] at q4
    have bA : nb (p0 * p0 - p3 * p3) 2305843009213693952 := by unfold nb at *; omega
    have bB : nb (2 * (p0 * p3)) 2305843009213693952 := by generalize p0 * p3 = t at *; unfold nb at *; omega
    have hn0 : 1152921500311879680 ≤ p0 * p0 + p3 * p3 := by unfold nb at gn; omega
    have hn1 : p0 * p0 + p3 * p3 ≤ 1152921508901814272 := by unfold nb at gn; omega
    have n0 := Int.mul_le_mul hn0 hn0 (by omega) (by omega)
    have n1 := Int.mul_le_mul hn1 hn1 (by omega) (by omega)
    rw [← hMp] at n0 n1
    generalize p0 * p0 - p3 * p3 = A at *
    generalize 2 * (p0 * p3) = B at *
    have i1 : 4 * (1152921504606846976 * (c * c + s * s) - (A * A + B * B)) = 2 * (c * 1073741824 - A) * (2 * (c * 1073741824 - A)) + 2 * (s * 1073741824 - B) * (2 * (s * 1073741824 - B)) + 4 * (2 * (c * 1073741824 - A) * A) + 4 * (2 * (s * 1073741824 - B) * B) := by grind
    have p1 := c1.mul c1
    have p2 := c2.mul c2
    have p3 := c1.mul bA
    have p4 := c2.mul bB
    generalize 2 * (c * 1073741824 - A) * (2 * (c * 1073741824 - A)) = a1 at *
    generalize 2 * (s * 1073741824 - B) * (2 * (s * 1073741824 - B)) = a2 at *
    generalize 2 * (c * 1073741824 - A) * A = a3 at *
    generalize 2 * (s * 1073741824 - B) * B = a4 at *
    generalize c * c + s * s = t at *
    generalize A * A + B * B = t2 at *
    clear c1 c2 bA bB q1 q2 q3 q4 j1 j2 gn hMp hn0 hn1
    unfold nb at *; omega
  have d3 : nb p0 1073741824 := g0
  have aa : ∀ {t : Int}, nb t 1073741824 → faddV [t, t] = t + t ∧ faddH [t, t] = false := fun h => add_mid (by unfold nb at h; omega) (by unfold nb at h; omega)
  obtain ⟨v0, w0⟩ := aa g0
  obtain ⟨v3, w3⟩ := aa g3
  obtain ⟨vz, wz⟩ := aa (nb0 (k := 1073741824) (by omega))
  have ws : wr IntKind.i64 (0 - s) = -s := wneg_mid (by unfold nb at b3; omega)
  have w0' : wr IntKind.i64 (0 - (0 + 0)) = 0 := by rw [wneg_mid (by omega)]; omega
  have wp : wr IntKind.i64 (0 - (p3 + p3)) = -(p3 + p3) := wneg_mid (by unfold nb at g3; omega)
  obtain ⟨n1, n2⟩ := dot2 b0 b3 b0 b3
  have hn0 : 536870912 ≤ dotV 30 [c, s] [c, s] ∧ dotV 30 [c, s] [c, s] ≤ 2147483648 := by
    generalize dotV 30 [c, s] [c, s] = t at *
    generalize c * c + s * s = t2 at *
    clear c1 c2
    unfold nb at n1; omega
  obtain ⟨h1, h2, h3⟩ := hyp2 (a := c) (b := s) (b0.le (by omega)) (b3.le (by omega))
  have big : ¬ hypV [c, s] < 16777216 := by
    generalize hypV [c, s] = hh at *
    intro g
    have x1 : nb c 16777216 := by unfold nb; omega
    have x2 : nb s 16777216 := by unfold nb; omega
    have y1 := x1.mul x1
    have y2 := x2.mul x2
    clear c1 c2
    unfold nb at y1 y2; omega
  have key : ∀ {y0 y1 : Int}, nb y0 4294967296 → nb y1 4294967296 → dotH 30 [c, -s] [y0, y1] = false ∧ divPH (dotV 30 [c, -s] [y0, y1]) (dotV 30 [c, s] [c, s]) 30 = false := by
    intro y0 y1 hy0 hy1
    obtain ⟨m1, m2⟩ := dot2 b0 b3.neg hy0 hy1
    have p1 := b0.mul hy0
    have p2 := b3.neg.mul hy1
    refine ⟨m2, (dgen ?_ ?_ hn0.1 hn0.2).2.2⟩
    all_goals
      generalize dotV 30 [c, -s] [y0, y1] = t at *
      generalize c * y0 = t1 at *
      generalize -s * y1 = t2 at *
      clear c1 c2
      unfold nb at *; omega
  rw [ws, v0, v3, vz, w0', wp]
  have z0 : nb ((0 : Int) + 0) 4294967296 := nb0 (by omega)
  have zz := nb0 (k := 4294967296) (by omega)
  have a0 : nb (p0 + p0) 4294967296 := by unfold nb at *; omega
  have a3 : nb (p3 + p3) 4294967296 := by unfold nb at *; omega
  obtain ⟨k1, k2⟩ := key a3 a0
  obtain ⟨k3, k4⟩ := key z0 z0
  obtain ⟨k5, k6⟩ := key z0 zz
  obtain ⟨k7, k8⟩ := key a0 a3.neg
  exact ⟨h3, big, n2, w0, w3, wz, k1, k2, k3, k4, k5, k6, k7, k8⟩

end Go.Proofs.Ytnabopepomjncaa

/- The law MagTurns: its runs, and why they answer true. -/
namespace Go.Proofs.Ytnabopepomjncaa
open Go.Lr Go.RowKit Go.Tg
set_option linter.unusedVariables false
set_option linter.unusedSimpArgs false

def mtA (hd x y z dc : Int) : Int := bif lvC (fy0 hd) (fy1 hd) (fy2 hd) (fy3 hd) (mulDivV x 1073741824 1000000) (mulDivV y 1073741824 1000000) (mulDivV z 1073741824 1000000) then 0 else lvA (fy0 hd) (fy1 hd) (fy2 hd) (fy3 hd) (mulDivV x 1073741824 1000000) (mulDivV y 1073741824 1000000) (mulDivV z 1073741824 1000000) dc
def mtM0 (hd x y z dc : Int) : Int := mq0 (fy0 (mtA hd x y z dc)) (fy1 (mtA hd x y z dc)) (fy2 (mtA hd x y z dc)) (fy3 (mtA hd x y z dc)) (fy0 hd) (fy1 hd) (fy2 hd) (fy3 hd)
def mtM1 (hd x y z dc : Int) : Int := mq1 (fy0 (mtA hd x y z dc)) (fy1 (mtA hd x y z dc)) (fy2 (mtA hd x y z dc)) (fy3 (mtA hd x y z dc)) (fy0 hd) (fy1 hd) (fy2 hd) (fy3 hd)
def mtM2 (hd x y z dc : Int) : Int := mq2 (fy0 (mtA hd x y z dc)) (fy1 (mtA hd x y z dc)) (fy2 (mtA hd x y z dc)) (fy3 (mtA hd x y z dc)) (fy0 hd) (fy1 hd) (fy2 hd) (fy3 hd)
def mtM3 (hd x y z dc : Int) : Int := mq3 (fy0 (mtA hd x y z dc)) (fy1 (mtA hd x y z dc)) (fy2 (mtA hd x y z dc)) (fy3 (mtA hd x y z dc)) (fy0 hd) (fy1 hd) (fy2 hd) (fy3 hd)
def mtP0 (hd x y z dc : Int) : Int := uV0 (mtM0 hd x y z dc) (mtM1 hd x y z dc) (mtM2 hd x y z dc) (mtM3 hd x y z dc)
def mtP1 (hd x y z dc : Int) : Int := uV1 (mtM0 hd x y z dc) (mtM1 hd x y z dc) (mtM2 hd x y z dc) (mtM3 hd x y z dc)
def mtP2 (hd x y z dc : Int) : Int := uV2 (mtM0 hd x y z dc) (mtM1 hd x y z dc) (mtM2 hd x y z dc) (mtM3 hd x y z dc)
def mtP3 (hd x y z dc : Int) : Int := uV3 (mtM0 hd x y z dc) (mtM1 hd x y z dc) (mtM2 hd x y z dc) (mtM3 hd x y z dc)
def mtC (hd x y z dc : Int) : Bool := lvC (mtP0 hd x y z dc) (mtP1 hd x y z dc) (mtP2 hd x y z dc) (mtP3 hd x y z dc) (mulDivV x 1073741824 1000000) (mulDivV y 1073741824 1000000) (mulDivV z 1073741824 1000000)
def mtB (hd x y z dc : Int) : Int := lvA (mtP0 hd x y z dc) (mtP1 hd x y z dc) (mtP2 hd x y z dc) (mtP3 hd x y z dc) (mulDivV x 1073741824 1000000) (mulDivV y 1073741824 1000000) (mulDivV z 1073741824 1000000) dc
def mtR0 (hd x y z dc : Int) : Int := rm0 (satV (mtP0 hd x y z dc)) (satV (mtP1 hd x y z dc)) (satV (mtP2 hd x y z dc)) (satV (mtP3 hd x y z dc))
def mtR1 (hd x y z dc : Int) : Int := rm1 (satV (mtP0 hd x y z dc)) (satV (mtP1 hd x y z dc)) (satV (mtP2 hd x y z dc)) (satV (mtP3 hd x y z dc))
def mtR2 (hd x y z dc : Int) : Int := rm2 (satV (mtP0 hd x y z dc)) (satV (mtP1 hd x y z dc)) (satV (mtP2 hd x y z dc)) (satV (mtP3 hd x y z dc))
def mtR3 (hd x y z dc : Int) : Int := rm3 (satV (mtP0 hd x y z dc)) (satV (mtP1 hd x y z dc)) (satV (mtP2 hd x y z dc)) (satV (mtP3 hd x y z dc))
def mtR4 (hd x y z dc : Int) : Int := rm4 (satV (mtP0 hd x y z dc)) (satV (mtP1 hd x y z dc)) (satV (mtP2 hd x y z dc)) (satV (mtP3 hd x y z dc))
def mtR5 (hd x y z dc : Int) : Int := rm5 (satV (mtP0 hd x y z dc)) (satV (mtP1 hd x y z dc)) (satV (mtP2 hd x y z dc)) (satV (mtP3 hd x y z dc))
def mtR6 (hd x y z dc : Int) : Int := rm6 (satV (mtP0 hd x y z dc)) (satV (mtP1 hd x y z dc)) (satV (mtP2 hd x y z dc)) (satV (mtP3 hd x y z dc))
def mtR7 (hd x y z dc : Int) : Int := rm7 (satV (mtP0 hd x y z dc)) (satV (mtP1 hd x y z dc)) (satV (mtP2 hd x y z dc)) (satV (mtP3 hd x y z dc))
def mtR8 (hd x y z dc : Int) : Int := rm8 (satV (mtP0 hd x y z dc)) (satV (mtP1 hd x y z dc)) (satV (mtP2 hd x y z dc)) (satV (mtP3 hd x y z dc))
theorem mtZ (hd x y z dc : Int) : (runF Try.prog S57 Zl 4000 10 [I hd, I x, I y, I z, I dc] [] 0 (nn 1 (ff 31 (nn 7 (ff 7 (nn 1 (ff 7 (nn 1 (ff 7 (nn 1 (ff 10 (nn 13 (tt 6 (nn 3 (tt 17 []))))))))))))))).map (fun r => (r.1, r.2.2.2)) = some (LV.v (V1.one (At.bool !(ptH (rmF ((bif mtC hd x y z dc then lvH (uFl (mulQH (fyFl (bif lvC (fy0 hd) (fy1 hd) (fy2 hd) (fy3 hd) (mulDivV x 1073741824 1000000) (mulDivV y 1073741824 1000000) (mulDivV z 1073741824 1000000) then lvH (fyFl (false || mulDivH x 1073741824 1000000 || mulDivH y 1073741824 1000000 || mulDivH z 1073741824 1000000) hd) (fy0 hd) (fy1 hd) (fy2 hd) (fy3 hd) (mulDivV x 1073741824 1000000) (mulDivV y 1073741824 1000000) (mulDivV z 1073741824 1000000) dc else lvH (fyFl (false || mulDivH x 1073741824 1000000 || mulDivH y 1073741824 1000000 || mulDivH z 1073741824 1000000) hd) (fy0 hd) (fy1 hd) (fy2 hd) (fy3 hd) (mulDivV x 1073741824 1000000) (mulDivV y 1073741824 1000000) (mulDivV z 1073741824 1000000) dc || subH dc (ptV (lvX (fy0 hd) (fy1 hd) (fy2 hd) (fy3 hd) (mulDivV x 1073741824 1000000) (mulDivV y 1073741824 1000000) (mulDivV z 1073741824 1000000)) (lvY (fy0 hd) (fy1 hd) (fy2 hd) (fy3 hd) (mulDivV x 1073741824 1000000) (mulDivV y 1073741824 1000000) (mulDivV z 1073741824 1000000)))) (mtA hd x y z dc)) (fy0 (mtA hd x y z dc)) (fy1 (mtA hd x y z dc)) (fy2 (mtA hd x y z dc)) (fy3 (mtA hd x y z dc)) (fy0 hd) (fy1 hd) (fy2 hd) (fy3 hd)) (mtM0 hd x y z dc) (mtM1 hd x y z dc) (mtM2 hd x y z dc) (mtM3 hd x y z dc)) (mtP0 hd x y z dc) (mtP1 hd x y z dc) (mtP2 hd x y z dc) (mtP3 hd x y z dc) (mulDivV x 1073741824 1000000) (mulDivV y 1073741824 1000000) (mulDivV z 1073741824 1000000) dc else lvH (uFl (mulQH (fyFl (bif lvC (fy0 hd) (fy1 hd) (fy2 hd) (fy3 hd) (mulDivV x 1073741824 1000000) (mulDivV y 1073741824 1000000) (mulDivV z 1073741824 1000000) then lvH (fyFl (false || mulDivH x 1073741824 1000000 || mulDivH y 1073741824 1000000 || mulDivH z 1073741824 1000000) hd) (fy0 hd) (fy1 hd) (fy2 hd) (fy3 hd) (mulDivV x 1073741824 1000000) (mulDivV y 1073741824 1000000) (mulDivV z 1073741824 1000000) dc else lvH (fyFl (false || mulDivH x 1073741824 1000000 || mulDivH y 1073741824 1000000 || mulDivH z 1073741824 1000000) hd) (fy0 hd) (fy1 hd) (fy2 hd) (fy3 hd) (mulDivV x 1073741824 1000000) (mulDivV y 1073741824 1000000) (mulDivV z 1073741824 1000000) dc || subH dc (ptV (lvX (fy0 hd) (fy1 hd) (fy2 hd) (fy3 hd) (mulDivV x 1073741824 1000000) (mulDivV y 1073741824 1000000) (mulDivV z 1073741824 1000000)) (lvY (fy0 hd) (fy1 hd) (fy2 hd) (fy3 hd) (mulDivV x 1073741824 1000000) (mulDivV y 1073741824 1000000) (mulDivV z 1073741824 1000000)))) (mtA hd x y z dc)) (fy0 (mtA hd x y z dc)) (fy1 (mtA hd x y z dc)) (fy2 (mtA hd x y z dc)) (fy3 (mtA hd x y z dc)) (fy0 hd) (fy1 hd) (fy2 hd) (fy3 hd)) (mtM0 hd x y z dc) (mtM1 hd x y z dc) (mtM2 hd x y z dc) (mtM3 hd x y z dc)) (mtP0 hd x y z dc) (mtP1 hd x y z dc) (mtP2 hd x y z dc) (mtP3 hd x y z dc) (mulDivV x 1073741824 1000000) (mulDivV y 1073741824 1000000) (mulDivV z 1073741824 1000000) dc || subH dc (ptV (lvX (mtP0 hd x y z dc) (mtP1 hd x y z dc) (mtP2 hd x y z dc) (mtP3 hd x y z dc) (mulDivV x 1073741824 1000000) (mulDivV y 1073741824 1000000) (mulDivV z 1073741824 1000000)) (lvY (mtP0 hd x y z dc) (mtP1 hd x y z dc) (mtP2 hd x y z dc) (mtP3 hd x y z dc) (mulDivV x 1073741824 1000000) (mulDivV y 1073741824 1000000) (mulDivV z 1073741824 1000000)))) || satH (mtP0 hd x y z dc) || satH (mtP1 hd x y z dc) || satH (mtP2 hd x y z dc) || satH (mtP3 hd x y z dc)) (satV (mtP0 hd x y z dc)) (satV (mtP1 hd x y z dc)) (satV (mtP2 hd x y z dc)) (satV (mtP3 hd x y z dc)) || subH (mulDivV x 1073741824 1000000) 0 || subH (mulDivV y 1073741824 1000000) 0 || subH (mulDivV z 1073741824 1000000) 0 || dotH 30 [mtR0 hd x y z dc, mtR1 hd x y z dc, mtR2 hd x y z dc] [subV (mulDivV x 1073741824 1000000) 0, subV (mulDivV y 1073741824 1000000) 0, subV (mulDivV z 1073741824 1000000) 0] || dotH 30 [mtR3 hd x y z dc, mtR4 hd x y z dc, mtR5 hd x y z dc] [subV (mulDivV x 1073741824 1000000) 0, subV (mulDivV y 1073741824 1000000) 0, subV (mulDivV z 1073741824 1000000) 0] || dotH 30 [mtR6 hd x y z dc, mtR7 hd x y z dc, mtR8 hd x y z dc] [subV (mulDivV x 1073741824 1000000) 0, subV (mulDivV y 1073741824 1000000) 0, subV (mulDivV z 1073741824 1000000) 0]) (dotV 30 [mtR0 hd x y z dc, mtR1 hd x y z dc, mtR2 hd x y z dc] [subV (mulDivV x 1073741824 1000000) 0, subV (mulDivV y 1073741824 1000000) 0, subV (mulDivV z 1073741824 1000000) 0]) (dotV 30 [mtR3 hd x y z dc, mtR4 hd x y z dc, mtR5 hd x y z dc] [subV (mulDivV x 1073741824 1000000) 0, subV (mulDivV y 1073741824 1000000) 0, subV (mulDivV z 1073741824 1000000) 0]) || hypH [mtR0 hd x y z dc, mtR3 hd x y z dc] || subH dc (ptV (dotV 30 [mtR0 hd x y z dc, mtR1 hd x y z dc, mtR2 hd x y z dc] [subV (mulDivV x 1073741824 1000000) 0, subV (mulDivV y 1073741824 1000000) 0, subV (mulDivV z 1073741824 1000000) 0]) (dotV 30 [mtR3 hd x y z dc, mtR4 hd x y z dc, mtR5 hd x y z dc] [subV (mulDivV x 1073741824 1000000) 0, subV (mulDivV y 1073741824 1000000) 0, subV (mulDivV z 1073741824 1000000) 0])) || dotH 30 [mtR0 hd x y z dc, mtR3 hd x y z dc] [mtR0 hd x y z dc, mtR3 hd x y z dc] || faddH [uV0 (mtM0 hd x y z dc) (mtM1 hd x y z dc) (mtM2 hd x y z dc) (mtM3 hd x y z dc), uV0 (mtM0 hd x y z dc) (mtM1 hd x y z dc) (mtM2 hd x y z dc) (mtM3 hd x y z dc)] || faddH [uV1 (mtM0 hd x y z dc) (mtM1 hd x y z dc) (mtM2 hd x y z dc) (mtM3 hd x y z dc), uV1 (mtM0 hd x y z dc) (mtM1 hd x y z dc) (mtM2 hd x y z dc) (mtM3 hd x y z dc)] || faddH [uV2 (mtM0 hd x y z dc) (mtM1 hd x y z dc) (mtM2 hd x y z dc) (mtM3 hd x y z dc), uV2 (mtM0 hd x y z dc) (mtM1 hd x y z dc) (mtM2 hd x y z dc) (mtM3 hd x y z dc)] || faddH [uV3 (mtM0 hd x y z dc) (mtM1 hd x y z dc) (mtM2 hd x y z dc) (mtM3 hd x y z dc), uV3 (mtM0 hd x y z dc) (mtM1 hd x y z dc) (mtM2 hd x y z dc) (mtM3 hd x y z dc)] || dotH 30 [mtR0 hd x y z dc, wr IntKind.i64 (0 - mtR3 hd x y z dc)] [faddV [uV3 (mtM0 hd x y z dc) (mtM1 hd x y z dc) (mtM2 hd x y z dc) (mtM3 hd x y z dc), uV3 (mtM0 hd x y z dc) (mtM1 hd x y z dc) (mtM2 hd x y z dc) (mtM3 hd x y z dc)], faddV [uV0 (mtM0 hd x y z dc) (mtM1 hd x y z dc) (mtM2 hd x y z dc) (mtM3 hd x y z dc), uV0 (mtM0 hd x y z dc) (mtM1 hd x y z dc) (mtM2 hd x y z dc) (mtM3 hd x y z dc)]] || divPH (dotV 30 [mtR0 hd x y z dc, wr IntKind.i64 (0 - mtR3 hd x y z dc)] [faddV [uV3 (mtM0 hd x y z dc) (mtM1 hd x y z dc) (mtM2 hd x y z dc) (mtM3 hd x y z dc), uV3 (mtM0 hd x y z dc) (mtM1 hd x y z dc) (mtM2 hd x y z dc) (mtM3 hd x y z dc)], faddV [uV0 (mtM0 hd x y z dc) (mtM1 hd x y z dc) (mtM2 hd x y z dc) (mtM3 hd x y z dc), uV0 (mtM0 hd x y z dc) (mtM1 hd x y z dc) (mtM2 hd x y z dc) (mtM3 hd x y z dc)]]) (dotV 30 [mtR0 hd x y z dc, mtR3 hd x y z dc] [mtR0 hd x y z dc, mtR3 hd x y z dc]) 30 || dotH 30 [mtR0 hd x y z dc, wr IntKind.i64 (0 - mtR3 hd x y z dc)] [faddV [uV2 (mtM0 hd x y z dc) (mtM1 hd x y z dc) (mtM2 hd x y z dc) (mtM3 hd x y z dc), uV2 (mtM0 hd x y z dc) (mtM1 hd x y z dc) (mtM2 hd x y z dc) (mtM3 hd x y z dc)], faddV [uV1 (mtM0 hd x y z dc) (mtM1 hd x y z dc) (mtM2 hd x y z dc) (mtM3 hd x y z dc), uV1 (mtM0 hd x y z dc) (mtM1 hd x y z dc) (mtM2 hd x y z dc) (mtM3 hd x y z dc)]] || divPH (dotV 30 [mtR0 hd x y z dc, wr IntKind.i64 (0 - mtR3 hd x y z dc)] [faddV [uV2 (mtM0 hd x y z dc) (mtM1 hd x y z dc) (mtM2 hd x y z dc) (mtM3 hd x y z dc), uV2 (mtM0 hd x y z dc) (mtM1 hd x y z dc) (mtM2 hd x y z dc) (mtM3 hd x y z dc)], faddV [uV1 (mtM0 hd x y z dc) (mtM1 hd x y z dc) (mtM2 hd x y z dc) (mtM3 hd x y z dc), uV1 (mtM0 hd x y z dc) (mtM1 hd x y z dc) (mtM2 hd x y z dc) (mtM3 hd x y z dc)]]) (dotV 30 [mtR0 hd x y z dc, mtR3 hd x y z dc] [mtR0 hd x y z dc, mtR3 hd x y z dc]) 30 || dotH 30 [mtR0 hd x y z dc, wr IntKind.i64 (0 - mtR3 hd x y z dc)] [faddV [uV1 (mtM0 hd x y z dc) (mtM1 hd x y z dc) (mtM2 hd x y z dc) (mtM3 hd x y z dc), uV1 (mtM0 hd x y z dc) (mtM1 hd x y z dc) (mtM2 hd x y z dc) (mtM3 hd x y z dc)], wr IntKind.i64 (0 - faddV [uV2 (mtM0 hd x y z dc) (mtM1 hd x y z dc) (mtM2 hd x y z dc) (mtM3 hd x y z dc), uV2 (mtM0 hd x y z dc) (mtM1 hd x y z dc) (mtM2 hd x y z dc) (mtM3 hd x y z dc)])] || divPH (dotV 30 [mtR0 hd x y z dc, wr IntKind.i64 (0 - mtR3 hd x y z dc)] [faddV [uV1 (mtM0 hd x y z dc) (mtM1 hd x y z dc) (mtM2 hd x y z dc) (mtM3 hd x y z dc), uV1 (mtM0 hd x y z dc) (mtM1 hd x y z dc) (mtM2 hd x y z dc) (mtM3 hd x y z dc)], wr IntKind.i64 (0 - faddV [uV2 (mtM0 hd x y z dc) (mtM1 hd x y z dc) (mtM2 hd x y z dc) (mtM3 hd x y z dc), uV2 (mtM0 hd x y z dc) (mtM1 hd x y z dc) (mtM2 hd x y z dc) (mtM3 hd x y z dc)])]) (dotV 30 [mtR0 hd x y z dc, mtR3 hd x y z dc] [mtR0 hd x y z dc, mtR3 hd x y z dc]) 30 || dotH 30 [mtR0 hd x y z dc, wr IntKind.i64 (0 - mtR3 hd x y z dc)] [faddV [uV0 (mtM0 hd x y z dc) (mtM1 hd x y z dc) (mtM2 hd x y z dc) (mtM3 hd x y z dc), uV0 (mtM0 hd x y z dc) (mtM1 hd x y z dc) (mtM2 hd x y z dc) (mtM3 hd x y z dc)], wr IntKind.i64 (0 - faddV [uV3 (mtM0 hd x y z dc) (mtM1 hd x y z dc) (mtM2 hd x y z dc) (mtM3 hd x y z dc), uV3 (mtM0 hd x y z dc) (mtM1 hd x y z dc) (mtM2 hd x y z dc) (mtM3 hd x y z dc)])] || divPH (dotV 30 [mtR0 hd x y z dc, wr IntKind.i64 (0 - mtR3 hd x y z dc)] [faddV [uV0 (mtM0 hd x y z dc) (mtM1 hd x y z dc) (mtM2 hd x y z dc) (mtM3 hd x y z dc), uV0 (mtM0 hd x y z dc) (mtM1 hd x y z dc) (mtM2 hd x y z dc) (mtM3 hd x y z dc)], wr IntKind.i64 (0 - faddV [uV3 (mtM0 hd x y z dc) (mtM1 hd x y z dc) (mtM2 hd x y z dc) (mtM3 hd x y z dc), uV3 (mtM0 hd x y z dc) (mtM1 hd x y z dc) (mtM2 hd x y z dc) (mtM3 hd x y z dc)])]) (dotV 30 [mtR0 hd x y z dc, mtR3 hd x y z dc] [mtR0 hd x y z dc, mtR3 hd x y z dc]) 30))), [(decide (wrapV (subV dc (ptV (dotV 30 [mtR0 hd x y z dc, mtR1 hd x y z dc, mtR2 hd x y z dc] [subV (mulDivV x 1073741824 1000000) 0, subV (mulDivV y 1073741824 1000000) 0, subV (mulDivV z 1073741824 1000000) 0]) (dotV 30 [mtR3 hd x y z dc, mtR4 hd x y z dc, mtR5 hd x y z dc] [subV (mulDivV x 1073741824 1000000) 0, subV (mulDivV y 1073741824 1000000) 0, subV (mulDivV z 1073741824 1000000) 0]))) > -1024), true), (decide (wrapV (subV dc (ptV (dotV 30 [mtR0 hd x y z dc, mtR1 hd x y z dc, mtR2 hd x y z dc] [subV (mulDivV x 1073741824 1000000) 0, subV (mulDivV y 1073741824 1000000) 0, subV (mulDivV z 1073741824 1000000) 0]) (dotV 30 [mtR3 hd x y z dc, mtR4 hd x y z dc, mtR5 hd x y z dc] [subV (mulDivV x 1073741824 1000000) 0, subV (mulDivV y 1073741824 1000000) 0, subV (mulDivV z 1073741824 1000000) 0]))) > -1024), true), (decide (wrapV (subV dc (ptV (dotV 30 [mtR0 hd x y z dc, mtR1 hd x y z dc, mtR2 hd x y z dc] [subV (mulDivV x 1073741824 1000000) 0, subV (mulDivV y 1073741824 1000000) 0, subV (mulDivV z 1073741824 1000000) 0]) (dotV 30 [mtR3 hd x y z dc, mtR4 hd x y z dc, mtR5 hd x y z dc] [subV (mulDivV x 1073741824 1000000) 0, subV (mulDivV y 1073741824 1000000) 0, subV (mulDivV z 1073741824 1000000) 0]))) > -1024), true), (decide (wrapV (subV dc (ptV (dotV 30 [mtR0 hd x y z dc, mtR1 hd x y z dc, mtR2 hd x y z dc] [subV (mulDivV x 1073741824 1000000) 0, subV (mulDivV y 1073741824 1000000) 0, subV (mulDivV z 1073741824 1000000) 0]) (dotV 30 [mtR3 hd x y z dc, mtR4 hd x y z dc, mtR5 hd x y z dc] [subV (mulDivV x 1073741824 1000000) 0, subV (mulDivV y 1073741824 1000000) 0, subV (mulDivV z 1073741824 1000000) 0]))) > -1024), true), (decide (wrapV (subV dc (ptV (dotV 30 [mtR0 hd x y z dc, mtR1 hd x y z dc, mtR2 hd x y z dc] [subV (mulDivV x 1073741824 1000000) 0, subV (mulDivV y 1073741824 1000000) 0, subV (mulDivV z 1073741824 1000000) 0]) (dotV 30 [mtR3 hd x y z dc, mtR4 hd x y z dc, mtR5 hd x y z dc] [subV (mulDivV x 1073741824 1000000) 0, subV (mulDivV y 1073741824 1000000) 0, subV (mulDivV z 1073741824 1000000) 0]))) > -1024), true), (decide (wrapV (subV dc (ptV (dotV 30 [mtR0 hd x y z dc, mtR1 hd x y z dc, mtR2 hd x y z dc] [subV (mulDivV x 1073741824 1000000) 0, subV (mulDivV y 1073741824 1000000) 0, subV (mulDivV z 1073741824 1000000) 0]) (dotV 30 [mtR3 hd x y z dc, mtR4 hd x y z dc, mtR5 hd x y z dc] [subV (mulDivV x 1073741824 1000000) 0, subV (mulDivV y 1073741824 1000000) 0, subV (mulDivV z 1073741824 1000000) 0]))) > -1024), true), (decide (wrapV (subV dc (ptV (dotV 30 [mtR0 hd x y z dc, mtR1 hd x y z dc, mtR2 hd x y z dc] [subV (mulDivV x 1073741824 1000000) 0, subV (mulDivV y 1073741824 1000000) 0, subV (mulDivV z 1073741824 1000000) 0]) (dotV 30 [mtR3 hd x y z dc, mtR4 hd x y z dc, mtR5 hd x y z dc] [subV (mulDivV x 1073741824 1000000) 0, subV (mulDivV y 1073741824 1000000) 0, subV (mulDivV z 1073741824 1000000) 0]))) < 1024), true), (decide (wrapV (subV dc (ptV (dotV 30 [mtR0 hd x y z dc, mtR1 hd x y z dc, mtR2 hd x y z dc] [subV (mulDivV x 1073741824 1000000) 0, subV (mulDivV y 1073741824 1000000) 0, subV (mulDivV z 1073741824 1000000) 0]) (dotV 30 [mtR3 hd x y z dc, mtR4 hd x y z dc, mtR5 hd x y z dc] [subV (mulDivV x 1073741824 1000000) 0, subV (mulDivV y 1073741824 1000000) 0, subV (mulDivV z 1073741824 1000000) 0]))) < 1024), true), (decide (wrapV (subV dc (ptV (dotV 30 [mtR0 hd x y z dc, mtR1 hd x y z dc, mtR2 hd x y z dc] [subV (mulDivV x 1073741824 1000000) 0, subV (mulDivV y 1073741824 1000000) 0, subV (mulDivV z 1073741824 1000000) 0]) (dotV 30 [mtR3 hd x y z dc, mtR4 hd x y z dc, mtR5 hd x y z dc] [subV (mulDivV x 1073741824 1000000) 0, subV (mulDivV y 1073741824 1000000) 0, subV (mulDivV z 1073741824 1000000) 0]))) < 1024), true), (decide (wrapV (subV dc (ptV (dotV 30 [mtR0 hd x y z dc, mtR1 hd x y z dc, mtR2 hd x y z dc] [subV (mulDivV x 1073741824 1000000) 0, subV (mulDivV y 1073741824 1000000) 0, subV (mulDivV z 1073741824 1000000) 0]) (dotV 30 [mtR3 hd x y z dc, mtR4 hd x y z dc, mtR5 hd x y z dc] [subV (mulDivV x 1073741824 1000000) 0, subV (mulDivV y 1073741824 1000000) 0, subV (mulDivV z 1073741824 1000000) 0]))) < 1024), true), (decide ((bif mtC hd x y z dc then 0 else mtB hd x y z dc) > -1024), true), (decide ((bif mtC hd x y z dc then 0 else mtB hd x y z dc) > -1024), true), (decide ((bif mtC hd x y z dc then 0 else mtB hd x y z dc) > -1024), true), (decide ((bif mtC hd x y z dc then 0 else mtB hd x y z dc) > -1024), true), (decide ((bif mtC hd x y z dc then 0 else mtB hd x y z dc) < 1024), true), (decide ((bif mtC hd x y z dc then 0 else mtB hd x y z dc) < 1024), true), (decide ((bif mtC hd x y z dc then 0 else mtB hd x y z dc) < 1024), true), ((bif mtC hd x y z dc then (4 : Int) else 0) == 0, true), ((bif mtC hd x y z dc then (4 : Int) else 0) == 0, true), ((bif mtC hd x y z dc then (4 : Int) else 0) == 0, true), ((bif lvC (fy0 hd) (fy1 hd) (fy2 hd) (fy3 hd) (mulDivV x 1073741824 1000000) (mulDivV y 1073741824 1000000) (mulDivV z 1073741824 1000000) then (4 : Int) else 0) == 0, true), ((bif lvC (fy0 hd) (fy1 hd) (fy2 hd) (fy3 hd) (mulDivV x 1073741824 1000000) (mulDivV y 1073741824 1000000) (mulDivV z 1073741824 1000000) then (4 : Int) else 0) == 0, true), ((bif lvC (fy0 hd) (fy1 hd) (fy2 hd) (fy3 hd) (mulDivV x 1073741824 1000000) (mulDivV y 1073741824 1000000) (mulDivV z 1073741824 1000000) then (4 : Int) else 0) == 0, true), (decide (hypV [mtR0 hd x y z dc, mtR3 hd x y z dc] < 16777216), false), (!!decide (hypV [dotV 30 [mtR0 hd x y z dc, mtR1 hd x y z dc, mtR2 hd x y z dc] [subV (mulDivV x 1073741824 1000000) 0, subV (mulDivV y 1073741824 1000000) 0, subV (mulDivV z 1073741824 1000000) 0], dotV 30 [mtR3 hd x y z dc, mtR4 hd x y z dc, mtR5 hd x y z dc] [subV (mulDivV x 1073741824 1000000) 0, subV (mulDivV y 1073741824 1000000) 0, subV (mulDivV z 1073741824 1000000) 0]] < 16777216), false), (!!decide (hypV [dotV 30 [mtR0 hd x y z dc, mtR1 hd x y z dc, mtR2 hd x y z dc] [subV (mulDivV x 1073741824 1000000) 0, subV (mulDivV y 1073741824 1000000) 0, subV (mulDivV z 1073741824 1000000) 0], dotV 30 [mtR3 hd x y z dc, mtR4 hd x y z dc, mtR5 hd x y z dc] [subV (mulDivV x 1073741824 1000000) 0, subV (mulDivV y 1073741824 1000000) 0, subV (mulDivV z 1073741824 1000000) 0]] < 16777216), false), (!!decide (hypV [dotV 30 [mtR0 hd x y z dc, mtR1 hd x y z dc, mtR2 hd x y z dc] [subV (mulDivV x 1073741824 1000000) 0, subV (mulDivV y 1073741824 1000000) 0, subV (mulDivV z 1073741824 1000000) 0], dotV 30 [mtR3 hd x y z dc, mtR4 hd x y z dc, mtR5 hd x y z dc] [subV (mulDivV x 1073741824 1000000) 0, subV (mulDivV y 1073741824 1000000) 0, subV (mulDivV z 1073741824 1000000) 0]] < 16777216), false), (!!decide (hypV [dotV 30 [mtR0 hd x y z dc, mtR1 hd x y z dc, mtR2 hd x y z dc] [subV (mulDivV x 1073741824 1000000) 0, subV (mulDivV y 1073741824 1000000) 0, subV (mulDivV z 1073741824 1000000) 0], dotV 30 [mtR3 hd x y z dc, mtR4 hd x y z dc, mtR5 hd x y z dc] [subV (mulDivV x 1073741824 1000000) 0, subV (mulDivV y 1073741824 1000000) 0, subV (mulDivV z 1073741824 1000000) 0]] < 16777216), false), (!!decide (hypV [dotV 30 [mtR0 hd x y z dc, mtR1 hd x y z dc, mtR2 hd x y z dc] [subV (mulDivV x 1073741824 1000000) 0, subV (mulDivV y 1073741824 1000000) 0, subV (mulDivV z 1073741824 1000000) 0], dotV 30 [mtR3 hd x y z dc, mtR4 hd x y z dc, mtR5 hd x y z dc] [subV (mulDivV x 1073741824 1000000) 0, subV (mulDivV y 1073741824 1000000) 0, subV (mulDivV z 1073741824 1000000) 0]] < 16777216), false), (!!decide (hypV [dotV 30 [mtR0 hd x y z dc, mtR1 hd x y z dc, mtR2 hd x y z dc] [subV (mulDivV x 1073741824 1000000) 0, subV (mulDivV y 1073741824 1000000) 0, subV (mulDivV z 1073741824 1000000) 0], dotV 30 [mtR3 hd x y z dc, mtR4 hd x y z dc, mtR5 hd x y z dc] [subV (mulDivV x 1073741824 1000000) 0, subV (mulDivV y 1073741824 1000000) 0, subV (mulDivV z 1073741824 1000000) 0]] < 16777216), false), (!!decide (hypV [dotV 30 [mtR0 hd x y z dc, mtR1 hd x y z dc, mtR2 hd x y z dc] [subV (mulDivV x 1073741824 1000000) 0, subV (mulDivV y 1073741824 1000000) 0, subV (mulDivV z 1073741824 1000000) 0], dotV 30 [mtR3 hd x y z dc, mtR4 hd x y z dc, mtR5 hd x y z dc] [subV (mulDivV x 1073741824 1000000) 0, subV (mulDivV y 1073741824 1000000) 0, subV (mulDivV z 1073741824 1000000) 0]] < 16777216), false), (!!decide (hypV [dotV 30 [mtR0 hd x y z dc, mtR1 hd x y z dc, mtR2 hd x y z dc] [subV (mulDivV x 1073741824 1000000) 0, subV (mulDivV y 1073741824 1000000) 0, subV (mulDivV z 1073741824 1000000) 0], dotV 30 [mtR3 hd x y z dc, mtR4 hd x y z dc, mtR5 hd x y z dc] [subV (mulDivV x 1073741824 1000000) 0, subV (mulDivV y 1073741824 1000000) 0, subV (mulDivV z 1073741824 1000000) 0]] < 16777216), false), (!!decide (hypV [dotV 30 [mtR0 hd x y z dc, mtR1 hd x y z dc, mtR2 hd x y z dc] [subV (mulDivV x 1073741824 1000000) 0, subV (mulDivV y 1073741824 1000000) 0, subV (mulDivV z 1073741824 1000000) 0], dotV 30 [mtR3 hd x y z dc, mtR4 hd x y z dc, mtR5 hd x y z dc] [subV (mulDivV x 1073741824 1000000) 0, subV (mulDivV y 1073741824 1000000) 0, subV (mulDivV z 1073741824 1000000) 0]] < 16777216), false), (decide (z > 2000000), false), (decide (z < -2000000), false), (decide (z < -2000000), false), (decide (z < -2000000), false), (decide (z < -2000000), false), (decide (z < -2000000), false), (decide (z < -2000000), false), (decide (y > 2000000), false), (decide (y < -2000000), false), (decide (y < -2000000), false), (decide (y < -2000000), false), (decide (y < -2000000), false), (decide (y < -2000000), false), (decide (y < -2000000), false), (decide (x > 2000000), false), (decide (x < -2000000), false), (decide (x < -2000000), false), (decide (x < -2000000), false), (decide (x < -2000000), false), (decide (x < -2000000), false), (decide (x < -2000000), false), (decide (dc > 1073741824), false), (decide (dc < -1073741824), false), (decide (dc < -1073741824), false), (decide (dc < -1073741824), false), (decide (wr IntKind.i64 (wr IntKind.i64 (x * x) + wr IntKind.i64 (y * y)) < 10000000000), false), (decide (wr IntKind.i64 (wr IntKind.i64 (x * x) + wr IntKind.i64 (y * y)) < 10000000000), false), (decide (wr IntKind.i64 (wr IntKind.i64 (x * x) + wr IntKind.i64 (y * y)) < 10000000000), false), (decide (z > 2000000), false), (decide (z > 2000000), false), (decide (z > 2000000), false), (decide (z > 2000000), false), (decide (z > 2000000), false), (decide (z > 2000000), false), (decide (z > 2000000), false), (decide (z > 2000000), false), (decide (z > 2000000), false), (decide (z < -2000000), false), (decide (z < -2000000), false), (decide (z < -2000000), false), (decide (y > 2000000), false), (decide (y > 2000000), false), (decide (y > 2000000), false), (decide (y < -2000000), false), (decide (y < -2000000), false), (decide (y < -2000000), false), (decide (x > 2000000), false), (decide (x > 2000000), false), (decide (x > 2000000), false), (decide (x < -2000000), false), (decide (x < -2000000), false), (decide (x < -2000000), false)]) := by kernel_rfl
def mtFl (hd dc a : Int) (hx hy hz C : Bool) (X Y Z f0 f1 f2 f3 g0 g1 g2 g3 r0 r1 r2 r3 p0 p1 p2 p3 c0 c1 c2 c3 c4 c5 c6 c7 c8 : Int) : Bool := (ptH (rmF ((bif C then lvH (uFl (mulQH (fyFl (bif lvC f0 f1 f2 f3 X Y Z then lvH (fyFl (false || hx || hy || hz) hd) f0 f1 f2 f3 X Y Z dc else lvH (fyFl (false || hx || hy || hz) hd) f0 f1 f2 f3 X Y Z dc || subH dc (ptV (lvX f0 f1 f2 f3 X Y Z) (lvY f0 f1 f2 f3 X Y Z))) a) g0 g1 g2 g3 f0 f1 f2 f3) r0 r1 r2 r3) p0 p1 p2 p3 X Y Z dc else lvH (uFl (mulQH (fyFl (bif lvC f0 f1 f2 f3 X Y Z then lvH (fyFl (false || hx || hy || hz) hd) f0 f1 f2 f3 X Y Z dc else lvH (fyFl (false || hx || hy || hz) hd) f0 f1 f2 f3 X Y Z dc || subH dc (ptV (lvX f0 f1 f2 f3 X Y Z) (lvY f0 f1 f2 f3 X Y Z))) a) g0 g1 g2 g3 f0 f1 f2 f3) r0 r1 r2 r3) p0 p1 p2 p3 X Y Z dc || subH dc (ptV (lvX p0 p1 p2 p3 X Y Z) (lvY p0 p1 p2 p3 X Y Z))) || satH p0 || satH p1 || satH p2 || satH p3) (satV p0) (satV p1) (satV p2) (satV p3) || subH X 0 || subH Y 0 || subH Z 0 || dotH 30 [c0, c1, c2] [subV X 0, subV Y 0, subV Z 0] || dotH 30 [c3, c4, c5] [subV X 0, subV Y 0, subV Z 0] || dotH 30 [c6, c7, c8] [subV X 0, subV Y 0, subV Z 0]) (dotV 30 [c0, c1, c2] [subV X 0, subV Y 0, subV Z 0]) (dotV 30 [c3, c4, c5] [subV X 0, subV Y 0, subV Z 0]) || hypH [c0, c3] || subH dc (ptV (dotV 30 [c0, c1, c2] [subV X 0, subV Y 0, subV Z 0]) (dotV 30 [c3, c4, c5] [subV X 0, subV Y 0, subV Z 0])) || dotH 30 [c0, c3] [c0, c3] || faddH [p0, p0] || faddH [p1, p1] || faddH [p2, p2] || faddH [p3, p3] || dotH 30 [c0, wr IntKind.i64 (0 - c3)] [faddV [p3, p3], faddV [p0, p0]] || divPH (dotV 30 [c0, wr IntKind.i64 (0 - c3)] [faddV [p3, p3], faddV [p0, p0]]) (dotV 30 [c0, c3] [c0, c3]) 30 || dotH 30 [c0, wr IntKind.i64 (0 - c3)] [faddV [p2, p2], faddV [p1, p1]] || divPH (dotV 30 [c0, wr IntKind.i64 (0 - c3)] [faddV [p2, p2], faddV [p1, p1]]) (dotV 30 [c0, c3] [c0, c3]) 30 || dotH 30 [c0, wr IntKind.i64 (0 - c3)] [faddV [p1, p1], wr IntKind.i64 (0 - faddV [p2, p2])] || divPH (dotV 30 [c0, wr IntKind.i64 (0 - c3)] [faddV [p1, p1], wr IntKind.i64 (0 - faddV [p2, p2])]) (dotV 30 [c0, c3] [c0, c3]) 30 || dotH 30 [c0, wr IntKind.i64 (0 - c3)] [faddV [p0, p0], wr IntKind.i64 (0 - faddV [p3, p3])] || divPH (dotV 30 [c0, wr IntKind.i64 (0 - c3)] [faddV [p0, p0], wr IntKind.i64 (0 - faddV [p3, p3])]) (dotV 30 [c0, c3] [c0, c3]) 30)
def mtY (dc X Y Z c0 c1 c2 c3 c4 c5 : Int) : Int := wrapV (subV dc (ptV (dotV 30 [c0, c1, c2] [subV X 0, subV Y 0, subV Z 0]) (dotV 30 [c3, c4, c5] [subV X 0, subV Y 0, subV Z 0])))
def mtHy (X Y Z c0 c1 c2 c3 c4 c5 : Int) : Int := hypV [dotV 30 [c0, c1, c2] [subV X 0, subV Y 0, subV Z 0], dotV 30 [c3, c4, c5] [subV X 0, subV Y 0, subV Z 0]]
theorem mtZ1 (hd x y z dc : Int) : (runF Try.prog S57 Zl 4000 10 [I hd, I x, I y, I z, I dc] [] 0 (nn 1 (ff 31 (nn 7 (ff 7 (nn 1 (ff 7 (nn 1 (ff 7 (nn 1 (ff 10 (nn 13 (tt 6 (nn 3 (tt 17 []))))))))))))))).map (fun r => (r.1, r.2.2.2)) = some (LV.v (V1.one (At.bool !(mtFl hd dc (mtA hd x y z dc) (mulDivH x 1073741824 1000000) (mulDivH y 1073741824 1000000) (mulDivH z 1073741824 1000000) (mtC hd x y z dc) (mulDivV x 1073741824 1000000) (mulDivV y 1073741824 1000000) (mulDivV z 1073741824 1000000) (fy0 hd) (fy1 hd) (fy2 hd) (fy3 hd) (fy0 (mtA hd x y z dc)) (fy1 (mtA hd x y z dc)) (fy2 (mtA hd x y z dc)) (fy3 (mtA hd x y z dc)) (mtM0 hd x y z dc) (mtM1 hd x y z dc) (mtM2 hd x y z dc) (mtM3 hd x y z dc) (mtP0 hd x y z dc) (mtP1 hd x y z dc) (mtP2 hd x y z dc) (mtP3 hd x y z dc) (mtR0 hd x y z dc) (mtR1 hd x y z dc) (mtR2 hd x y z dc) (mtR3 hd x y z dc) (mtR4 hd x y z dc) (mtR5 hd x y z dc) (mtR6 hd x y z dc) (mtR7 hd x y z dc) (mtR8 hd x y z dc)))), ra 6 (decide ((mtY dc (mulDivV x 1073741824 1000000) (mulDivV y 1073741824 1000000) (mulDivV z 1073741824 1000000) (mtR0 hd x y z dc) (mtR1 hd x y z dc) (mtR2 hd x y z dc) (mtR3 hd x y z dc) (mtR4 hd x y z dc) (mtR5 hd x y z dc)) > -1024), true) (ra 4 (decide ((mtY dc (mulDivV x 1073741824 1000000) (mulDivV y 1073741824 1000000) (mulDivV z 1073741824 1000000) (mtR0 hd x y z dc) (mtR1 hd x y z dc) (mtR2 hd x y z dc) (mtR3 hd x y z dc) (mtR4 hd x y z dc) (mtR5 hd x y z dc)) < 1024), true) (ra 4 (decide ((bif mtC hd x y z dc then 0 else mtB hd x y z dc) > -1024), true) (ra 3 (decide ((bif mtC hd x y z dc then 0 else mtB hd x y z dc) < 1024), true) (ra 3 ((bif mtC hd x y z dc then (4 : Int) else 0) == 0, true) (ra 3 ((bif lvC (fy0 hd) (fy1 hd) (fy2 hd) (fy3 hd) (mulDivV x 1073741824 1000000) (mulDivV y 1073741824 1000000) (mulDivV z 1073741824 1000000) then (4 : Int) else 0) == 0, true) (ra 1 (decide (hypV [mtR0 hd x y z dc, mtR3 hd x y z dc] < 16777216), false) (ra 9 (!!decide ((mtHy (mulDivV x 1073741824 1000000) (mulDivV y 1073741824 1000000) (mulDivV z 1073741824 1000000) (mtR0 hd x y z dc) (mtR1 hd x y z dc) (mtR2 hd x y z dc) (mtR3 hd x y z dc) (mtR4 hd x y z dc) (mtR5 hd x y z dc)) < 16777216), false) (ra 1 (decide (z > 2000000), false) (ra 6 (decide (z < -2000000), false) (ra 1 (decide (y > 2000000), false) (ra 6 (decide (y < -2000000), false) (ra 1 (decide (x > 2000000), false) (ra 6 (decide (x < -2000000), false) (ra 1 (decide (dc > 1073741824), false) (ra 3 (decide (dc < -1073741824), false) (ra 3 (decide (wr IntKind.i64 (wr IntKind.i64 (x * x) + wr IntKind.i64 (y * y)) < 10000000000), false) (ra 9 (decide (z > 2000000), false) (ra 3 (decide (z < -2000000), false) (ra 3 (decide (y > 2000000), false) (ra 3 (decide (y < -2000000), false) (ra 3 (decide (x > 2000000), false) (ra 3 (decide (x < -2000000), false) []))))))))))))))))))))))) := mtZ hd x y z dc
theorem mtE0 (hd x y z dc : Int) : (runF Try.prog S57 Zl 4000 10 [I hd, I x, I y, I z, I dc] [] 0 (nn 1 (tt 3 []))).map (fun r => (r.1, r.2.2.2)) = some (LV.v (V1.one (At.bool true)), ra 3 (decide (x < -2000000), true) []) := by kernel_rfl
theorem mtE1 (hd x y z dc : Int) : (runF Try.prog S57 Zl 4000 10 [I hd, I x, I y, I z, I dc] [] 0 (nn 1 (ff 3 (tt 3 [])))).map (fun r => (r.1, r.2.2.2)) = some (LV.v (V1.one (At.bool true)), ra 3 (decide (x > 2000000), true) (ra 3 (decide (x < -2000000), false) [])) := by kernel_rfl
theorem mtE2 (hd x y z dc : Int) : (runF Try.prog S57 Zl 4000 10 [I hd, I x, I y, I z, I dc] [] 0 (nn 1 (ff 6 (tt 3 [])))).map (fun r => (r.1, r.2.2.2)) = some (LV.v (V1.one (At.bool true)), ra 3 (decide (y < -2000000), true) (ra 3 (decide (x > 2000000), false) (ra 3 (decide (x < -2000000), false) []))) := by kernel_rfl
theorem mtE3 (hd x y z dc : Int) : (runF Try.prog S57 Zl 4000 10 [I hd, I x, I y, I z, I dc] [] 0 (nn 1 (ff 9 (tt 3 [])))).map (fun r => (r.1, r.2.2.2)) = some (LV.v (V1.one (At.bool true)), ra 3 (decide (y > 2000000), true) (ra 3 (decide (y < -2000000), false) (ra 3 (decide (x > 2000000), false) (ra 3 (decide (x < -2000000), false) [])))) := by kernel_rfl
theorem mtE4 (hd x y z dc : Int) : (runF Try.prog S57 Zl 4000 10 [I hd, I x, I y, I z, I dc] [] 0 (nn 1 (ff 12 (tt 3 [])))).map (fun r => (r.1, r.2.2.2)) = some (LV.v (V1.one (At.bool true)), ra 3 (decide (z < -2000000), true) (ra 3 (decide (y > 2000000), false) (ra 3 (decide (y < -2000000), false) (ra 3 (decide (x > 2000000), false) (ra 3 (decide (x < -2000000), false) []))))) := by kernel_rfl
theorem mtE5 (hd x y z dc : Int) : (runF Try.prog S57 Zl 4000 10 [I hd, I x, I y, I z, I dc] [] 0 (nn 1 (ff 15 (tt 9 [])))).map (fun r => (r.1, r.2.2.2)) = some (LV.v (V1.one (At.bool true)), ra 9 (decide (z > 2000000), true) (ra 3 (decide (z < -2000000), false) (ra 3 (decide (y > 2000000), false) (ra 3 (decide (y < -2000000), false) (ra 3 (decide (x > 2000000), false) (ra 3 (decide (x < -2000000), false) [])))))) := by kernel_rfl
theorem mtE6 (hd x y z dc : Int) : (runF Try.prog S57 Zl 4000 10 [I hd, I x, I y, I z, I dc] [] 0 (nn 1 (ff 24 (tt 3 [])))).map (fun r => (r.1, r.2.2.2)) = some (LV.v (V1.one (At.bool true)), ra 3 (decide (wr IntKind.i64 (wr IntKind.i64 (x * x) + wr IntKind.i64 (y * y)) < 10000000000), true) (ra 9 (decide (z > 2000000), false) (ra 3 (decide (z < -2000000), false) (ra 3 (decide (y > 2000000), false) (ra 3 (decide (y < -2000000), false) (ra 3 (decide (x > 2000000), false) (ra 3 (decide (x < -2000000), false) []))))))) := by kernel_rfl
theorem mtE7 (hd x y z dc : Int) : (runF Try.prog S57 Zl 4000 10 [I hd, I x, I y, I z, I dc] [] 0 (nn 1 (ff 27 (tt 3 [])))).map (fun r => (r.1, r.2.2.2)) = some (LV.v (V1.one (At.bool true)), ra 3 (decide (dc < -1073741824), true) (ra 3 (decide (wr IntKind.i64 (wr IntKind.i64 (x * x) + wr IntKind.i64 (y * y)) < 10000000000), false) (ra 9 (decide (z > 2000000), false) (ra 3 (decide (z < -2000000), false) (ra 3 (decide (y > 2000000), false) (ra 3 (decide (y < -2000000), false) (ra 3 (decide (x > 2000000), false) (ra 3 (decide (x < -2000000), false) [])))))))) := by kernel_rfl
theorem mtE8 (hd x y z dc : Int) : (runF Try.prog S57 Zl 4000 10 [I hd, I x, I y, I z, I dc] [] 0 (nn 1 (ff 30 (tt 1 [])))).map (fun r => (r.1, r.2.2.2)) = some (LV.v (V1.one (At.bool true)), ra 1 (decide (dc > 1073741824), true) (ra 3 (decide (dc < -1073741824), false) (ra 3 (decide (wr IntKind.i64 (wr IntKind.i64 (x * x) + wr IntKind.i64 (y * y)) < 10000000000), false) (ra 9 (decide (z > 2000000), false) (ra 3 (decide (z < -2000000), false) (ra 3 (decide (y > 2000000), false) (ra 3 (decide (y < -2000000), false) (ra 3 (decide (x > 2000000), false) (ra 3 (decide (x < -2000000), false) []))))))))) := by kernel_rfl

theorem sub_0 {a : Int} (h : nb a 2147483648) : subV a 0 = a ∧ subH a 0 = false := by
  unfold nb at h
  obtain ⟨e, f⟩ := sub_mid (a := a) (b := 0) (by omega) (by omega)
  exact ⟨by rw [e]; omega, f⟩
theorem lvX_eq {p0 p3 X Y Z : Int} (hu : UnitQ p0 0 0 p3) : dotV 30 [rm0 p0 0 0 p3, rm1 p0 0 0 p3, rm2 p0 0 0 p3] [X, Y, Z] = lvX p0 0 0 p3 X Y Z ∧ dotV 30 [rm3 p0 0 0 p3, rm4 p0 0 0 p3, rm5 p0 0 0 p3] [X, Y, Z] = lvY p0 0 0 p3 X Y Z := by
  unfold lvX lvY
  rw [satV_S (inS_bd hu.ha), satV_S (inS_bd hu.hd), show satV 0 = 0 by rw [sat_in (by omega) (by omega)]]
  exact ⟨rfl, rfl⟩
theorem mtFl_ok {hd dc a X Y Z L f0 f3 g0 g3 r0 r3 p0 p3 : Int} (hL : 75000000 ≤ L) (hL1 : L ≤ 2147483648) (hX : nb X L) (hY : nb Y L) (hZ : nb Z 2147483648) (hLL : L * L ≤ X * X + Y * Y) (hdc : nb dc 1073741824) (uf : UnitQ f0 0 0 f3) (up : UnitQ p0 0 0 p3)
    (ff : ∀ h, fyFl h hd = h) (gf : ∀ h, fyFl h a = h) (rh : ∀ h, mulQH h g0 0 0 g3 f0 0 0 f3 = h) (uh : ∀ h, uFl h r0 0 0 r3 = h) :
    mtFl hd dc a false false false false X Y Z f0 0 0 f3 g0 0 0 g3 r0 0 0 r3 p0 0 0 p3 (rm0 p0 0 0 p3) (rm1 p0 0 0 p3) (rm2 p0 0 0 p3) (rm3 p0 0 0 p3) (rm4 p0 0 0 p3) (rm5 p0 0 0 p3) (rm6 p0 0 0 p3) (rm7 p0 0 0 p3) (rm8 p0 0 0 p3) = false := by
  obtain ⟨c1, c2, -, c4, -⟩ := lev_ok uf hL hL1 hX hY hZ hLL hdc
  obtain ⟨d1, d2, -, d4, d5, -⟩ := lev_ok up hL hL1 hX hY hZ hLL hdc
  obtain ⟨a1, a2⟩ := sub_0 (hX.le hL1)
  obtain ⟨b1, b2⟩ := sub_0 (hY.le hL1)
  obtain ⟨e1, e2⟩ := sub_0 hZ
  obtain ⟨lx, ly⟩ := lvX_eq (X := X) (Y := Y) (Z := Z) up
  obtain ⟨-, -, k1, k2, k3⟩ := lev_f up (hX.le hL1) (hY.le hL1) hZ
  obtain ⟨-, -, -, -, -, -, -, -, -, -, -, kf⟩ := lev_m up
  obtain ⟨q1, -, q3, q4, q5, q6, q7, q8, q9, q10, q11, q12, q13, q14⟩ := hd_fl up _ _ rfl rfl
  unfold mtFl
  rw [a1, b1, e1, a2, b2, e2, lx, ly, k1, k2, k3]
  rw [satV_S (inS_bd up.ha), satV_S (inS_bd up.hd), show satV 0 = 0 by rw [sat_in (by omega) (by omega)], satH_S (inS_bd up.ha), satH_S (inS_bd up.hd), show satH 0 = false from satH_in (by omega) (by omega)]
  simp only [cond_false, Bool.false_or, Bool.or_false, ff, gf, rh, uh, c1, c2, c4, d1, d2, d4, d5, kf, q1, q3, q4, q5, q6, q7, q8, q9, q10, q11, q12, q13, q14]
theorem mt_fin {hd x y z dc : Int} (hx : nb x 2000000) (hy : nb y 2000000) (hz : nb z 2000000) (hxy : 10000000000 ≤ x * x + y * y) (hdc : nb dc 1073741824) :
    lvC (fy0 hd) (fy1 hd) (fy2 hd) (fy3 hd) (mulDivV x 1073741824 1000000) (mulDivV y 1073741824 1000000) (mulDivV z 1073741824 1000000) = false ∧ mtC hd x y z dc = false ∧ ¬ hypV [mtR0 hd x y z dc, mtR3 hd x y z dc] < 16777216 ∧ decide (mtHy (mulDivV x 1073741824 1000000) (mulDivV y 1073741824 1000000) (mulDivV z 1073741824 1000000) (mtR0 hd x y z dc) (mtR1 hd x y z dc) (mtR2 hd x y z dc) (mtR3 hd x y z dc) (mtR4 hd x y z dc) (mtR5 hd x y z dc) < 16777216) = false ∧
    nb (mtB hd x y z dc) 1023 ∧ nb (mtY dc (mulDivV x 1073741824 1000000) (mulDivV y 1073741824 1000000) (mulDivV z 1073741824 1000000) (mtR0 hd x y z dc) (mtR1 hd x y z dc) (mtR2 hd x y z dc) (mtR3 hd x y z dc) (mtR4 hd x y z dc) (mtR5 hd x y z dc)) 1023 ∧
    (mtFl hd dc (mtA hd x y z dc) (mulDivH x 1073741824 1000000) (mulDivH y 1073741824 1000000) (mulDivH z 1073741824 1000000) (mtC hd x y z dc) (mulDivV x 1073741824 1000000) (mulDivV y 1073741824 1000000) (mulDivV z 1073741824 1000000) (fy0 hd) (fy1 hd) (fy2 hd) (fy3 hd) (fy0 (mtA hd x y z dc)) (fy1 (mtA hd x y z dc)) (fy2 (mtA hd x y z dc)) (fy3 (mtA hd x y z dc)) (mtM0 hd x y z dc) (mtM1 hd x y z dc) (mtM2 hd x y z dc) (mtM3 hd x y z dc) (mtP0 hd x y z dc) (mtP1 hd x y z dc) (mtP2 hd x y z dc) (mtP3 hd x y z dc) (mtR0 hd x y z dc) (mtR1 hd x y z dc) (mtR2 hd x y z dc) (mtR3 hd x y z dc) (mtR4 hd x y z dc) (mtR5 hd x y z dc) (mtR6 hd x y z dc) (mtR7 hd x y z dc) (mtR8 hd x y z dc)) = false := by
  obtain ⟨x1, x2, x3⟩ := md_f hx
  obtain ⟨y1, y2, y3⟩ := md_f hy
  obtain ⟨z1, z2, z3⟩ := md_f hz
  obtain ⟨l0, l1, l2, -⟩ := field_L x1 y1 x2 y2 hxy
  obtain ⟨mX, mY, -⟩ := mxB_f (mulDivV y 1073741824 1000000) (mulDivV x 1073741824 1000000)
  obtain ⟨uf, f1, f2⟩ := fy_ok hd
  obtain ⟨-, -, -, ff⟩ := fy_dir hd
  rw [x3, y3, z3]
  have eA : ∀ n1 n2 : Int, n1 = 0 → n2 = 0 → (bif lvC (fy0 hd) n1 n2 (fy3 hd) (mulDivV x 1073741824 1000000) (mulDivV y 1073741824 1000000) (mulDivV z 1073741824 1000000) then 0 else lvA (fy0 hd) n1 n2 (fy3 hd) (mulDivV x 1073741824 1000000) (mulDivV y 1073741824 1000000) (mulDivV z 1073741824 1000000) dc) = wrapV (dc - atanV (lvY (fy0 hd) 0 0 (fy3 hd) (mulDivV x 1073741824 1000000) (mulDivV y 1073741824 1000000) (mulDivV z 1073741824 1000000)) (lvX (fy0 hd) 0 0 (fy3 hd) (mulDivV x 1073741824 1000000) (mulDivV y 1073741824 1000000) (mulDivV z 1073741824 1000000))) := by
    intro n1 n2 h1 h2
    obtain ⟨c1, -, c3, -⟩ := lev_ok uf l0 l1 mX mY z2 l2 hdc
    rw [h1, h2, c1, c3]; rfl
  have hA : mtA hd x y z dc = wrapV (dc - atanV (lvY (fy0 hd) 0 0 (fy3 hd) (mulDivV x 1073741824 1000000) (mulDivV y 1073741824 1000000) (mulDivV z 1073741824 1000000)) (lvX (fy0 hd) 0 0 (fy3 hd) (mulDivV x 1073741824 1000000) (mulDivV y 1073741824 1000000) (mulDivV z 1073741824 1000000))) := eA _ _ f1 f2
  obtain ⟨c1, -⟩ := lev_ok uf l0 l1 mX mY z2 l2 hdc
  obtain ⟨ug, g1, g2⟩ := fy_ok (mtA hd x y z dc)
  obtain ⟨gw, gv, gk, gf⟩ := fy_dir (mtA hd x y z dc)
  have wa : wrapV (mtA hd x y z dc) = mtA hd x y z dc := by rw [hA, wrap_wrap]
  rw [wa] at gk
  have gk' : nb (2 * fyA (mtA hd x y z dc) - wrapV (dc - atanV (lvY (fy0 hd) 0 0 (fy3 hd) (mulDivV x 1073741824 1000000) (mulDivV y 1073741824 1000000) (mulDivV z 1073741824 1000000)) (lvX (fy0 hd) 0 0 (fy3 hd) (mulDivV x 1073741824 1000000) (mulDivV y 1073741824 1000000) (mulDivV z 1073741824 1000000)))) 1 := by rw [← hA]; exact gk
  obtain ⟨r1, r2, rh, uh, up, res⟩ := mt_core l0 l1 mX mY z2 l2 hdc uf ug gw gv gk'
  have M0 : mtM0 hd x y z dc = mq0 (fy0 (mtA hd x y z dc)) 0 0 (fy3 (mtA hd x y z dc)) (fy0 hd) 0 0 (fy3 hd) := by unfold mtM0; rw [f1, f2, g1, g2]
  have M1 : mtM1 hd x y z dc = 0 := by unfold mtM1; rw [f1, f2, g1, g2]; exact r1
  have M2 : mtM2 hd x y z dc = 0 := by unfold mtM2; rw [f1, f2, g1, g2]; exact r2
  have M3 : mtM3 hd x y z dc = mq3 (fy0 (mtA hd x y z dc)) 0 0 (fy3 (mtA hd x y z dc)) (fy0 hd) 0 0 (fy3 hd) := by unfold mtM3; rw [f1, f2, g1, g2]
  rw [← M0, ← M3] at uh up res
  have zz := unit_z (mtM0 hd x y z dc) (mtM3 hd x y z dc)
  have P0 : mtP0 hd x y z dc = uV0 (mtM0 hd x y z dc) 0 0 (mtM3 hd x y z dc) := by unfold mtP0; rw [M1, M2]
  have P1 : mtP1 hd x y z dc = 0 := by unfold mtP1; rw [M1, M2]; exact zz.1
  have P2 : mtP2 hd x y z dc = 0 := by unfold mtP2; rw [M1, M2]; exact zz.2
  have P3 : mtP3 hd x y z dc = uV3 (mtM0 hd x y z dc) 0 0 (mtM3 hd x y z dc) := by unfold mtP3; rw [M1, M2]
  rw [← P0, ← P3] at up res
  have s0 : satV 0 = 0 := by rw [sat_in (by omega) (by omega)]
  have R0 : mtR0 hd x y z dc = rm0 (mtP0 hd x y z dc) 0 0 (mtP3 hd x y z dc) := by unfold mtR0; rw [P1, P2, s0, satV_S (inS_bd up.ha), satV_S (inS_bd up.hd)]
  have R1 : mtR1 hd x y z dc = rm1 (mtP0 hd x y z dc) 0 0 (mtP3 hd x y z dc) := by unfold mtR1; rw [P1, P2, s0, satV_S (inS_bd up.ha), satV_S (inS_bd up.hd)]
  have R2 : mtR2 hd x y z dc = rm2 (mtP0 hd x y z dc) 0 0 (mtP3 hd x y z dc) := by unfold mtR2; rw [P1, P2, s0, satV_S (inS_bd up.ha), satV_S (inS_bd up.hd)]
  have R3 : mtR3 hd x y z dc = rm3 (mtP0 hd x y z dc) 0 0 (mtP3 hd x y z dc) := by unfold mtR3; rw [P1, P2, s0, satV_S (inS_bd up.ha), satV_S (inS_bd up.hd)]
  have R4 : mtR4 hd x y z dc = rm4 (mtP0 hd x y z dc) 0 0 (mtP3 hd x y z dc) := by unfold mtR4; rw [P1, P2, s0, satV_S (inS_bd up.ha), satV_S (inS_bd up.hd)]
  have R5 : mtR5 hd x y z dc = rm5 (mtP0 hd x y z dc) 0 0 (mtP3 hd x y z dc) := by unfold mtR5; rw [P1, P2, s0, satV_S (inS_bd up.ha), satV_S (inS_bd up.hd)]
  have R6 : mtR6 hd x y z dc = rm6 (mtP0 hd x y z dc) 0 0 (mtP3 hd x y z dc) := by unfold mtR6; rw [P1, P2, s0, satV_S (inS_bd up.ha), satV_S (inS_bd up.hd)]
  have R7 : mtR7 hd x y z dc = rm7 (mtP0 hd x y z dc) 0 0 (mtP3 hd x y z dc) := by unfold mtR7; rw [P1, P2, s0, satV_S (inS_bd up.ha), satV_S (inS_bd up.hd)]
  have R8 : mtR8 hd x y z dc = rm8 (mtP0 hd x y z dc) 0 0 (mtP3 hd x y z dc) := by unfold mtR8; rw [P1, P2, s0, satV_S (inS_bd up.ha), satV_S (inS_bd up.hd)]
  obtain ⟨d1, -, d3, -⟩ := lev_ok up l0 l1 mX mY z2 l2 hdc
  have C0 : mtC hd x y z dc = false := by unfold mtC; rw [P1, P2]; exact d1
  have B0 : mtB hd x y z dc = lvA (mtP0 hd x y z dc) 0 0 (mtP3 hd x y z dc) (mulDivV x 1073741824 1000000) (mulDivV y 1073741824 1000000) (mulDivV z 1073741824 1000000) dc := by unfold mtB; rw [P1, P2]
  rw [R0, R1, R2, R3, R4, R5, R6, R7, R8, M1, M2, P1, P2, f1, f2, g1, g2, C0, B0]
  obtain ⟨a1, a2⟩ := sub_0 x2
  obtain ⟨b1, b2⟩ := sub_0 y2
  obtain ⟨e1, e2⟩ := sub_0 z2
  obtain ⟨lx, ly⟩ := lvX_eq (X := (mulDivV x 1073741824 1000000)) (Y := (mulDivV y 1073741824 1000000)) (Z := (mulDivV z 1073741824 1000000)) up
  refine ⟨c1, rfl, (hd_fl up _ _ rfl rfl).2.1, ?_, ?_, ?_, ?_⟩
  · unfold mtHy; rw [a1, b1, e1, lx, ly]; exact d1
  · rw [d3]; exact res
  · unfold mtY; rw [a1, b1, e1, lx, ly]
    have : wrapV (subV dc (ptV (lvX (mtP0 hd x y z dc) 0 0 (mtP3 hd x y z dc) (mulDivV x 1073741824 1000000) (mulDivV y 1073741824 1000000) (mulDivV z 1073741824 1000000)) (lvY (mtP0 hd x y z dc) 0 0 (mtP3 hd x y z dc) (mulDivV x 1073741824 1000000) (mulDivV y 1073741824 1000000) (mulDivV z 1073741824 1000000)))) = lvA (mtP0 hd x y z dc) 0 0 (mtP3 hd x y z dc) (mulDivV x 1073741824 1000000) (mulDivV y 1073741824 1000000) (mulDivV z 1073741824 1000000) dc := rfl
    rw [this, d3]; exact res
  · exact mtFl_ok l0 l1 mX mY z2 l2 hdc uf up ff gf rh uh
theorem sqw {x y : Int} (hx : nb x 2000000) (hy : nb y 2000000) : wr IntKind.i64 (wr IntKind.i64 (x * x) + wr IntKind.i64 (y * y)) = x * x + y * y := by
  have p1 := hx.mul hx
  have p2 := hy.mul hy
  have q1 := sqnn0 x
  have q2 := sqnn0 y
  generalize x * x = a at *
  generalize y * y = b at *
  have w : ∀ n : Int, nb n 1000000000000000000 → wr IntKind.i64 n = n := by
    intro n h
    show w64 n = n
    unfold w64; unfold nb at h; omega
  unfold nb at p1 p2
  rw [w a (by unfold nb; omega), w b (by unfold nb; omega), w (a + b) (by unfold nb; omega)]
theorem lawMagTurns (hd x y z dc : Int) (w : World) :
    Calls Try.prog 10 ([I hd, I x, I y, I z, I dc].map (LV.den E0)).toArray w fun e w' => e = .returned (.bool true) ∧ Below w.heap.size w w' := by
  have T : ∀ {c : Prop} [Decidable c] {l : List (Bool × Bool)} {n : Nat}, c → (∀ d ∈ l, d.1 = d.2) → ∀ d ∈ ra n (decide c, true) l, d.1 = d.2 := fun h hl => ra_ok (decide_eq_true h) hl _
  have F : ∀ {c : Prop} [Decidable c] {l : List (Bool × Bool)} {n : Nat}, ¬ c → (∀ d ∈ l, d.1 = d.2) → ∀ d ∈ ra n (decide c, false) l, d.1 = d.2 := fun h hl => ra_ok (decide_eq_false h) hl _
  have Z : ∀ d ∈ ([] : List (Bool × Bool)), d.1 = d.2 := by simp
  have Q : ∀ {b : Bool} {l : List (Bool × Bool)} {n : Nat}, b = true → (∀ d ∈ l, d.1 = d.2) → ∀ d ∈ ra n (b, true) l, d.1 = d.2 := fun h hl => ra_ok h hl _
  have R : ∀ {b : Bool} {l : List (Bool × Bool)} {n : Nat}, b = false → (∀ d ∈ l, d.1 = d.2) → ∀ d ∈ ra n (!!b, false) l, d.1 = d.2 := fun h hl => ra_ok (by rw [h]; rfl) hl _
  by_cases x0 : x < -2000000
  · exact law_true sound57 (mtE0 hd x y z dc) rfl (by repeat (first | exact Z | apply T x0)) rfl w
  by_cases x1 : x > 2000000
  · exact law_true sound57 (mtE1 hd x y z dc) rfl (by repeat (first | exact Z | apply T x1 | apply F x0)) rfl w
  by_cases x2 : y < -2000000
  · exact law_true sound57 (mtE2 hd x y z dc) rfl (by repeat (first | exact Z | apply T x2 | apply F x1 | apply F x0)) rfl w
  by_cases x3 : y > 2000000
  · exact law_true sound57 (mtE3 hd x y z dc) rfl (by repeat (first | exact Z | apply T x3 | apply F x2 | apply F x1 | apply F x0)) rfl w
  by_cases x4 : z < -2000000
  · exact law_true sound57 (mtE4 hd x y z dc) rfl (by repeat (first | exact Z | apply T x4 | apply F x3 | apply F x2 | apply F x1 | apply F x0)) rfl w
  by_cases x5 : z > 2000000
  · exact law_true sound57 (mtE5 hd x y z dc) rfl (by repeat (first | exact Z | apply T x5 | apply F x4 | apply F x3 | apply F x2 | apply F x1 | apply F x0)) rfl w
  by_cases x6 : wr IntKind.i64 (wr IntKind.i64 (x * x) + wr IntKind.i64 (y * y)) < 10000000000
  · exact law_true sound57 (mtE6 hd x y z dc) rfl (by repeat (first | exact Z | apply T x6 | apply F x5 | apply F x4 | apply F x3 | apply F x2 | apply F x1 | apply F x0)) rfl w
  by_cases x7 : dc < -1073741824
  · exact law_true sound57 (mtE7 hd x y z dc) rfl (by repeat (first | exact Z | apply T x7 | apply F x6 | apply F x5 | apply F x4 | apply F x3 | apply F x2 | apply F x1 | apply F x0)) rfl w
  by_cases x8 : dc > 1073741824
  · exact law_true sound57 (mtE8 hd x y z dc) rfl (by repeat (first | exact Z | apply T x8 | apply F x7 | apply F x6 | apply F x5 | apply F x4 | apply F x3 | apply F x2 | apply F x1 | apply F x0)) rfl w
  have hx : nb x 2000000 := by unfold nb; omega
  have hy : nb y 2000000 := by unfold nb; omega
  have hz : nb z 2000000 := by unfold nb; omega
  have hq := sqw hx hy
  obtain ⟨c, mc, hh, hy', hb, hY, fl⟩ := mt_fin (hd := hd) hx hy hz (by rw [hq] at x6; omega) (show nb dc 1073741824 by unfold nb; omega)
  have hb' : (bif mtC hd x y z dc then 0 else mtB hd x y z dc) = mtB hd x y z dc := by rw [mc]; rfl
  have k1 : (bif mtC hd x y z dc then 0 else mtB hd x y z dc) > -1024 := by rw [hb']; unfold nb at hb; omega
  have k2 : (bif mtC hd x y z dc then 0 else mtB hd x y z dc) < 1024 := by rw [hb']; unfold nb at hb; omega
  have k3 : ((bif mtC hd x y z dc then (4 : Int) else 0) == 0) = true := by rw [mc]; rfl
  have k4 : ((bif lvC (fy0 hd) (fy1 hd) (fy2 hd) (fy3 hd) (mulDivV x 1073741824 1000000) (mulDivV y 1073741824 1000000) (mulDivV z 1073741824 1000000) then (4 : Int) else 0) == 0) = true := by rw [c]; rfl
  have k5 : mtY dc (mulDivV x 1073741824 1000000) (mulDivV y 1073741824 1000000) (mulDivV z 1073741824 1000000) (mtR0 hd x y z dc) (mtR1 hd x y z dc) (mtR2 hd x y z dc) (mtR3 hd x y z dc) (mtR4 hd x y z dc) (mtR5 hd x y z dc) > -1024 := by unfold nb at hY; omega
  have k6 : mtY dc (mulDivV x 1073741824 1000000) (mulDivV y 1073741824 1000000) (mulDivV z 1073741824 1000000) (mtR0 hd x y z dc) (mtR1 hd x y z dc) (mtR2 hd x y z dc) (mtR3 hd x y z dc) (mtR4 hd x y z dc) (mtR5 hd x y z dc) < 1024 := by unfold nb at hY; omega
  have hz1 := mtZ1 hd x y z dc
  rw [fl] at hz1
  refine law_true sound57 hz1 rfl ?_ rfl w
  exact T k5 (T k6 (T k1 (T k2 (Q k3 (Q k4 (F hh (R hy' (F x5 (F x4 (F x3 (F x2 (F x1 (F x0 (F x8 (F x7 (F x6 (F x5 (F x4 (F x3 (F x2 (F x1 (F x0 Z))))))))))))))))))))))

end Go.Proofs.Ytnabopepomjncaa
