/- Joined texts. What each part proves stands ahead of it; no condition. -/
import Derived.Test.YtaebmggjhjobnaaLrM4

/- The program's sine and cosine against the reference's: how far off they are; the ways they turn. Plain. -/
namespace Go.Proofs.Ytaebmggjhjobnaa
open Go.Lr Go.Tg
set_option linter.unusedVariables false
set_option linter.unusedSimpArgs false

/-- A series' exact value, times W. -/
def hP (x2 : Int) : Int → Int → List Int → Int
  | p, _, [] => p
  | p, w, k :: l => hP x2 (k * (w * 1152921504606846976) + x2 * p) (w * 1152921504606846976) l
def hW : Int → List Int → Int
  | w, [] => w
  | w, _ :: l => hW (w * 1152921504606846976) l
def hL : List Int → Int → List Int → List Int
  | q, _, [] => q
  | q, w, k :: l => hL ((k * (w * 1152921504606846976)) :: q) (w * 1152921504606846976) l
theorem hP_ev (x2 : Int) : ∀ (l q : List Int) (w : Int), hP x2 (pv q x2) w l = pv (hL q w l) x2
  | [], q, w => rfl
  | k :: l, q, w => hP_ev x2 l ((k * (w * 1152921504606846976)) :: q) (w * 1152921504606846976)
/-- In the number itself, where the series is one of its square. -/
def sprd : List Int → List Int
  | [] => []
  | a :: l => a :: 0 :: sprd l
theorem pv_sprd (x : Int) : ∀ l : List Int, pv (sprd l) x = pv l (x * x)
  | [] => rfl
  | a :: l => by simp only [sprd, pv, pv_sprd x l]; grind

theorem mul30 {a b : Int} (ha : nb a 4294967296) (hb : nb b 4294967296) : nb (2 * (mulV a b 30 * 1073741824 - a * b)) 1073741824 := by
  have h := rnd_bd (a * b) 30
  rw [show pow2 30 = 1073741824 from rfl] at h
  have hp := ha.mul hb
  unfold nb at ha hb hp
  have e : mulV a b 30 = rndV (a * b) 30 := by
    unfold mulV rndS
    rw [if_neg (by decide), if_neg (by decide), sat_in (a := a) (by omega) (by omega), sat_in (a := b) (by omega) (by omega), show Int.toNat 30 = 30 from rfl]
    exact sat_in (by omega) (by omega)
  rw [e]; exact h
theorem addnb {a b : Int} (ha : nb a 4294967296) (hb : nb b 4294967296) : faddV [a, b] = a + b := by
  unfold nb at ha hb
  unfold faddV
  simp only [sumS]
  rw [sat_in (a := a) (by omega) (by omega), sat_in (a := b) (by omega) (by omega), sat_in (by omega) (by omega)]; omega

theorem z_bd {z x2 : Int} (hx0 : 0 ≤ x2) (hx1 : x2 ≤ 711180000000000000) (hz : nb (2 * (z * 1073741824 - x2)) 1073741824) : 0 ≤ z ∧ z ≤ 662338200 := by
  unfold nb at hz; omega
theorem step {z x2 s k w p : Int} (hx0 : 0 ≤ x2) (hx1 : x2 ≤ 711180000000000000) (hz : nb (2 * (z * 1073741824 - x2)) 1073741824) (hw : 0 < w) (hk : nb k 1073741824) (hs : nb s 1503238553) (he : nb (s * w - p) (4 * w)) :
    faddV [k, mulV z s 30] = k + mulV z s 30 ∧ nb (mulV z s 30) 927400000 ∧ nb ((k + mulV z s 30) * (w * 1152921504606846976) - (k * (w * 1152921504606846976) + x2 * p)) (4 * (w * 1152921504606846976)) := by
  obtain ⟨z0, z1⟩ := z_bd hx0 hx1 hz
  have zn : nb z 662338200 := ⟨by omega, z1⟩
  have hm := mul30 (zn.le (by omega)) (hs.le (by omega))
  have hzs := zn.mul hs
  generalize mulV z s 30 = m at *
  have mb : nb m 927400000 := by unfold nb at *; omega
  refine ⟨addnb (hk.le (by omega)) (mb.le (by omega)), mb, ?_⟩
  have xn : nb x2 711180000000000000 := ⟨by omega, hx1⟩
  have a1 := xn.mul he
  have a2 := hs.mul hz
  have a3 := (show nb 1073741824 1073741824 by unfold nb; omega).mul hm
  have a4 := (a2.add a3).lmul (show 0 ≤ w by omega)
  have e : 2 * ((k + m) * (w * 1152921504606846976) - (k * (w * 1152921504606846976) + x2 * p)) = 2 * (x2 * (s * w - p)) + w * (s * (2 * (z * 1073741824 - x2)) + 1073741824 * (2 * (m * 1073741824 - z * s))) := by grind
  unfold nb at a1 a4 ⊢
  generalize (k + m) * (w * 1152921504606846976) - (k * (w * 1152921504606846976) + x2 * p) = X at *
  generalize w * (s * (2 * (z * 1073741824 - x2)) + 1073741824 * (2 * (m * 1073741824 - z * s))) = Y at *
  generalize x2 * (s * w - p) = Z at *
  omega
theorem ser_err {z x2 : Int} (hx0 : 0 ≤ x2) (hx1 : x2 ≤ 711180000000000000) (hz : nb (2 * (z * 1073741824 - x2)) 1073741824) : ∀ (l : List Int) (s p w : Int), 0 < w → (∀ k ∈ l, nb k 536870912) → nb s 1503238553 → nb (s * w - p) (4 * w) →
    nb (serV z s l) 1503238553 ∧ nb (serV z s l * hW w l - hP x2 p w l) (4 * hW w l) ∧ 0 < hW w l
  | [], s, p, w, hw, _, hs, he => ⟨hs, he, hw⟩
  | k :: l, s, p, w, hw, hk, hs, he => by
    have hk0 := hk k (List.mem_cons_self ..)
    obtain ⟨e1, e2, e3⟩ := step hx0 hx1 hz hw (hk0.le (by omega)) hs he
    simp only [serV, hW, hP]
    rw [e1]
    refine ser_err hx0 hx1 hz l _ _ _ (by omega) (fun j hj => hk j (List.mem_cons_of_mem _ hj)) ?_ e3
    unfold nb at *; omega
theorem ser_app (z : Int) (k : Int) : ∀ (l : List Int) (s : Int), serV z s (l ++ [k]) = faddV [k, mulV z (serV z s l) 30]
  | [], s => rfl
  | j :: l, s => by simp only [List.cons_append, serV]; exact ser_app z k l _
theorem hP_app (x2 k : Int) : ∀ (l : List Int) (p w : Int), hP x2 p w (l ++ [k]) = k * (hW w l * 1152921504606846976) + x2 * hP x2 p w l
  | [], p, w => rfl
  | j :: l, p, w => by simp only [List.cons_append, hP, hW]; exact hP_app x2 k l _ _
theorem hW_app (k : Int) : ∀ (l : List Int) (w : Int), hW w (l ++ [k]) = hW w l * 1152921504606846976
  | [], w => rfl
  | j :: l, w => by simp only [List.cons_append, hW]; exact hW_app k l _
/-- A whole series: its last coefficient is one. -/
theorem ser_all {z x2 a : Int} {l : List Int} (hx0 : 0 ≤ x2) (hx1 : x2 ≤ 711180000000000000) (hz : nb (2 * (z * 1073741824 - x2)) 1073741824) (ha : nb a 536870912) (hk : ∀ k ∈ l, nb k 536870912) :
    nb (serV z a (l ++ [1073741824])) 2001141824 ∧ nb (serV z a (l ++ [1073741824]) * hW 1 (l ++ [1073741824]) - pv (hL [a] 1 (l ++ [1073741824])) x2) (4 * hW 1 (l ++ [1073741824])) ∧ 0 < hW 1 (l ++ [1073741824]) := by
  obtain ⟨b0, b1, b2⟩ := ser_err hx0 hx1 hz l a a 1 (by omega) hk (ha.le (by omega)) (by unfold nb; omega)
  obtain ⟨e1, e2, e3⟩ := step hx0 hx1 hz b2 (show nb 1073741824 1073741824 by unfold nb; omega) b0 b1
  have e := hP_ev x2 (l ++ [1073741824]) [a] 1
  rw [show pv [a] x2 = a by simp [pv]] at e
  rw [← e, ser_app, hP_app, hW_app, e1]
  exact ⟨by unfold nb at *; omega, e3, by omega⟩

theorem sqx_bd {x : Int} (hx : nb x 843314857) : 0 ≤ x * x ∧ x * x ≤ 711180000000000000 := by
  have h := (hx.mul hx).2
  refine ⟨?_, by omega⟩
  rcases Int.le_total 0 x with k | k
  · exact Int.mul_nonneg k k
  · exact Int.mul_nonneg_of_nonpos_of_nonpos k k
def R8 : Int := 843314857
theorem chk3 : leB (2 * pv (pabs (padd (psm MN (0 :: sprd (hL [-27] 1 sL1))) (psm (-(1073741824 ^ 12)) sinL))) 843314857) (MN * 1073741824 ^ 11) = true := by kernel_rfl
theorem chk4 : leB (2 * pv (pabs (padd (psm MN (sprd (hL [2] 1 sL2))) (psm (-(1073741824 ^ 13)) cosL))) 843314857) (MN * 1073741824 ^ 12) = true := by kernel_rfl
theorem s0_err {x : Int} (hx : nb x 843314857) : nb (2 * (MN * sinS0 x - 1073741824 * Sp x)) (9 * MN) := by
  obtain ⟨q0, q1⟩ := sqx_bd hx
  have hz := mul30 (hx.le (by omega)) (hx.le (by omega))
  unfold sinS0
  have hl : sL1 = [2959, -213044, 8947849, -178956971] ++ [1073741824] := rfl
  obtain ⟨a0, a1, -⟩ := ser_all (a := -27) (l := [2959, -213044, 8947849, -178956971]) q0 q1 hz (by unfold nb; omega) (by unfold nb; simp)
  rw [← hl] at a0 a1
  have c := (show nb (2 * pv (padd (psm MN (0 :: sprd (hL [-27] 1 sL1))) (psm (-(1073741824 ^ 12)) sinL)) x) (MN * 1073741824 ^ 11) from by
    have h := leB_le chk3
    have h2 := pv_abs hx.abs (padd (psm MN (0 :: sprd (hL [-27] 1 sL1))) (psm (-(1073741824 ^ 12)) sinL))
    unfold nb; omega)
  rw [pv_add, pv_sm, pv_sm] at c
  rw [show pv (0 :: sprd (hL [-27] 1 sL1)) x = x * pv (hL [-27] 1 sL1) (x * x) by simp only [pv, pv_sprd]; omega] at c
  generalize mulV x x 30 = z at *
  generalize serV z (-27) sL1 = S at *
  have hm := mul30 (hx.le (show (843314857 : Int) ≤ 4294967296 by omega)) (a0.le (show (2001141824 : Int) ≤ 4294967296 by omega))
  generalize mulV x S 30 = m at *
  generalize pv (hL [-27] 1 sL1) (x * x) = p at *
  rw [show hW 1 sL1 = 1073741824 ^ 10 by decide +kernel] at a1
  have hM := MN_pos
  change nb (2 * (MN * (x * p) + -1073741824 ^ 12 * Sp x)) (MN * 1073741824 ^ 11) at c
  generalize Sp x = sp at *
  generalize MN = M at *
  have b1 := (hx.mul a1).lmul (show 0 ≤ M by omega)
  have b2 := hm.lmul (show 0 ≤ M by omega)
  refine nb.cancel (m := 1073741824 ^ 11) (by decide) ?_
  have e : 1073741824 ^ 11 * (2 * (M * m - 1073741824 * sp)) = 2 * (M * (x * (S * 1073741824 ^ 10 - p))) + 1073741824 ^ 10 * (M * (2 * (m * 1073741824 - x * S))) + 2 * (M * (x * p) + -1073741824 ^ 12 * sp) := by grind
  rw [e]
  unfold nb at b1 b2 c ⊢
  generalize M * (x * (S * 1073741824 ^ 10 - p)) = A at *
  generalize M * (2 * (m * 1073741824 - x * S)) = B at *
  generalize 2 * (M * (x * p) + -1073741824 ^ 12 * sp) = D at *
  omega
theorem c0_err {x : Int} (hx : nb x 843314857) : nb (2 * (MN * serV (mulV x x 30) 2 sL2 - 1073741824 * Cp x)) (9 * MN) ∧ nb (serV (mulV x x 30) 2 sL2) 2001141824 := by
  obtain ⟨q0, q1⟩ := sqx_bd hx
  have hz := mul30 (hx.le (by omega)) (hx.le (by omega))
  have hl : sL2 = [-296, 26631, -1491308, 44739243, -536870912] ++ [1073741824] := rfl
  obtain ⟨a0, a1, -⟩ := ser_all (a := 2) (l := [-296, 26631, -1491308, 44739243, -536870912]) q0 q1 hz (by unfold nb; omega) (by unfold nb; simp)
  rw [← hl] at a0 a1
  have c := (show nb (2 * pv (padd (psm MN (sprd (hL [2] 1 sL2))) (psm (-(1073741824 ^ 13)) cosL)) x) (MN * 1073741824 ^ 12) from by
    have h := leB_le chk4
    have h2 := pv_abs hx.abs (padd (psm MN (sprd (hL [2] 1 sL2))) (psm (-(1073741824 ^ 13)) cosL))
    unfold nb; omega)
  rw [pv_add, pv_sm, pv_sm, pv_sprd] at c
  generalize mulV x x 30 = z at *
  refine ⟨?_, a0⟩
  generalize serV z 2 sL2 = S at *
  generalize pv (hL [2] 1 sL2) (x * x) = p at *
  rw [show hW 1 sL2 = 1073741824 ^ 12 by decide +kernel] at a1
  have hM := MN_pos
  change nb (2 * (MN * p + -1073741824 ^ 13 * Cp x)) (MN * 1073741824 ^ 12) at c
  generalize Cp x = cp at *
  generalize MN = M at *
  have b1 := a1.lmul (show 0 ≤ M by omega)
  refine nb.cancel (m := 1073741824 ^ 12) (by decide) ?_
  have e : 1073741824 ^ 12 * (2 * (M * S - 1073741824 * cp)) = 2 * (M * (S * 1073741824 ^ 12 - p)) + 2 * (M * p + -1073741824 ^ 13 * cp) := by grind
  rw [e]
  unfold nb at b1 c ⊢
  generalize M * (S * 1073741824 ^ 12 - p) = A at *
  generalize 2 * (M * p + -1073741824 ^ 13 * cp) = D at *
  omega
end Go.Proofs.Ytaebmggjhjobnaa

/- The program's sine as a function of the wrapped angle: its symmetries; how far off the reference's it is. Plain. -/
namespace Go.Proofs.Ytaebmggjhjobnaa
open Go.Lr Go.Tg
set_option linter.unusedVariables false
set_option linter.unusedSimpArgs false

theorem mm_def (s : Int) : mmV s = if s > 1073741824 then 1073741824 else if s < -1073741824 then -1073741824 else s := by
  unfold mmV; (repeat' split) <;> omega
theorem mm_bd (s : Int) : nb (mmV s) 1073741824 := by
  rw [mm_def]; unfold nb; (repeat' split) <;> omega
theorem mm_neg (s : Int) : mmV (-s) = -mmV s := by
  rw [mm_def, mm_def]; (repeat' split) <;> omega
theorem mm_err {s v M : Int} (hM : 0 < M) (h : nb (2 * (M * s - v)) (10 * M)) (hv : nb (2048 * v) (2199023255553 * M)) : nb (2 * (M * mmV s - v)) (10 * M) := by
  rw [mm_def]
  unfold nb at *
  split
  · rename_i g
    have := Int.mul_le_mul_of_nonneg_left (show (1073741824 : Int) ≤ s by omega) (show 0 ≤ M by omega)
    omega
  · split
    · rename_i g
      have := Int.mul_le_mul_of_nonneg_left (show s ≤ (-1073741824 : Int) by omega) (show 0 ≤ M by omega)
      omega
    · exact h
theorem Sp_v {x : Int} (hx : nb x 1700000000) : nb (2048 * (1073741824 * Sp x)) (2199023255553 * MN) := by
  have h := Sp_one hx
  rw [show 2048 * (1073741824 * Sp x) = 2199023255552 * Sp x by omega]; exact h
theorem fabs_sm {w : Int} (h : nb w 1152921504606846975) : fabsV w = if w < 0 then -w else w := by
  unfold nb at h; unfold fabsV; (repeat' split) <;> omega
theorem sinF_err {w : Int} (hw : nb w 1686629713) : nb (2 * (MN * sinF w - 1073741824 * Sp w)) (10 * MN) := by
  have hM := MN_pos
  have hx : nb w 1700000000 := hw.le (by omega)
  have hf := fabs_sm (hw.le (show (1686629713 : Int) ≤ 1152921504606846975 by omega))
  unfold sinF
  by_cases c : fabsV w ≤ 843314857
  · rw [decide_eq_true c, cond_true]
    refine mm_err hM ((s0_err ?_).le (by omega)) (Sp_v hx)
    rw [hf] at c; unfold nb; split at c <;> omega
  · rw [decide_eq_false c, cond_false]
    refine mm_err hM ?_ (Sp_v hx)
    rw [hf] at c
    unfold nb at hw
    by_cases n : w < 0
    · rw [if_pos n] at c
      have e : sinX w = 1686629713 - -w := by unfold sinX; rw [hf, if_pos n, wr_i, w64_in (by omega) (by omega)]
      rw [e, decide_eq_true n]
      have hy : nb (1686629713 - -w) 843314857 := by unfold nb; omega
      obtain ⟨c1, c2⟩ := c0_err hy
      obtain ⟨c3, -⟩ := co_eq (w := -w) (by unfold nb; omega)
      have e2 : sinG0 true (1686629713 - -w) = -serV (mulV (1686629713 - -w) (1686629713 - -w) 30) 2 sL2 := by
        show wr IntKind.i64 (0 - _) = _
        unfold nb at c2
        rw [wr_i, w64_in (by omega) (by omega)]; omega
      rw [e2]
      rw [Sp_neg] at c3
      generalize serV (mulV (1686629713 - -w) (1686629713 - -w) 30) 2 sL2 = s at *
      generalize Cp (1686629713 - -w) = cp at *
      generalize Sp w = sp at *
      rw [show MN * -s = -(MN * s) by grind]
      generalize MN * s = ms at *
      generalize MN = M at *
      unfold nb at *
      omega
    · rw [if_neg n] at c
      have e : sinX w = 1686629713 - w := by unfold sinX; rw [hf, if_neg n, wr_i, w64_in (by omega) (by omega)]
      rw [e, decide_eq_false n]
      have hy : nb (1686629713 - w) 843314857 := by unfold nb; omega
      obtain ⟨c1, c2⟩ := c0_err hy
      obtain ⟨c3, -⟩ := co_eq (w := w) (by unfold nb; omega)
      show nb (2 * (MN * serV (mulV (1686629713 - w) (1686629713 - w) 30) 2 sL2 - 1073741824 * Sp w)) (10 * MN)
      generalize serV (mulV (1686629713 - w) (1686629713 - w) 30) 2 sL2 = s at *
      generalize Cp (1686629713 - w) = cp at *
      generalize Sp w = sp at *
      generalize MN * s = ms at *
      generalize MN = M at *
      unfold nb at *
      omega
theorem mul_nn (a b s : Int) : mulV (-a) (-b) s = mulV a b s := by unfold mulV; rw [sat_odd, sat_odd, Int.neg_mul_neg]
theorem rndS_neg (w s : Int) : rndS (-w) s = -rndS w s := by
  unfold rndS
  (repeat' split) <;> first | omega | rw [rnd_odd, sat_odd]
theorem mul_neg1 (a b s : Int) : mulV (-a) b s = -mulV a b s := by unfold mulV; rw [sat_odd, Int.neg_mul, rndS_neg]
theorem sinF_neg {w : Int} (hw : nb w 1686629713) : sinF (-w) = -sinF w := by
  have hf := fabs_sm (hw.le (show (1686629713 : Int) ≤ 1152921504606846975 by omega))
  have hg := fabs_sm (hw.neg.le (show (1686629713 : Int) ≤ 1152921504606846975 by omega))
  have hfg : fabsV (-w) = fabsV w := by rw [hf, hg]; (repeat' split) <;> omega
  unfold sinF
  rw [hfg]
  by_cases c : fabsV w ≤ 843314857
  · rw [decide_eq_true c, cond_true, cond_true, ← mm_neg]
    unfold sinS0
    rw [mul_nn, mul_neg1]
  · rw [decide_eq_false c, cond_false, cond_false, ← mm_neg]
    have ex : sinX (-w) = sinX w := by unfold sinX; rw [hfg]
    rw [ex]
    have hb : nb (sinX w) 843314857 := by
      unfold sinX
      rw [hf] at c ⊢
      unfold nb at *
      split at c
      · rename_i n
        rw [if_pos n, wr_i, w64_in (by omega) (by omega)]; omega
      · rename_i n
        rw [if_neg n, wr_i, w64_in (by omega) (by omega)]; omega
    obtain ⟨-, c2⟩ := c0_err hb
    have key : sinG0 true (sinX w) = -sinG0 false (sinX w) := by
      show wr IntKind.i64 (0 - serV (mulV (sinX w) (sinX w) 30) 2 sL2) = -serV (mulV (sinX w) (sinX w) 30) 2 sL2
      unfold nb at c2
      rw [wr_i, w64_in (by omega) (by omega)]; omega
    rw [hf] at c
    by_cases n : w < 0
    · have n2 : ¬ -w < 0 := by omega
      rw [decide_eq_true n, decide_eq_false n2, key, Int.neg_neg]
    · have n2 : -w < 0 := by rw [if_neg n] at c; omega
      rw [decide_eq_false n, decide_eq_true n2, key]

/-- The angle, folded to the right half. -/
def foldV (w : Int) : Int := if w > 1686629713 then 3373259426 - w else if w < -1686629713 then -3373259426 - w else w
/-- The sine and the cosine, of any whole number. -/
def SG (a : Int) : Int := sinF (foldV (wrapV a))
def CG (a : Int) : Int := SG (1686629713 + a)
theorem fold_bd {w : Int} (h0 : -3373259426 < w) (h1 : w ≤ 3373259426) : nb (foldV w) 1686629713 := by
  unfold foldV nb; (repeat' split) <;> omega
theorem sinV_eq {a : Int} (h : nb a 1152921504606846976) : sinV a = SG a := by
  unfold nb at h
  have hs : satV a = a := sat_in (by omega) (by omega)
  obtain ⟨b0, b1, -⟩ := wrap_spec a
  unfold sinV SG
  congr 1
  unfold sinW foldV
  rw [hs]
  by_cases c : wrapV a > 1686629713
  · rw [decide_eq_true c, cond_true, if_pos c, wr_i, w64_in (by omega) (by omega)]
  · rw [decide_eq_false c, cond_false, if_neg c]
    by_cases d : wrapV a < -1686629713
    · rw [decide_eq_true d, cond_true, if_pos d, wr_i, w64_in (by omega) (by omega)]
    · rw [decide_eq_false d, cond_false, if_neg d]
theorem SG_per (a k : Int) : SG (a + k * 6746518852) = SG a := by
  obtain ⟨b0, b1, j, hj⟩ := wrap_spec a
  unfold SG
  rw [wrap_unique (a := a + k * 6746518852) (w := wrapV a) (k := j + k) (by omega) b0 b1]
theorem SG_wrap (a : Int) : SG (wrapV a) = SG a := by unfold SG; rw [wrap_wrap]
theorem cosV_eq (a : Int) : cosV a = CG a := by
  obtain ⟨b0, b1, j, hj⟩ := wrap_spec a
  unfold cosV CG
  have e : wr IntKind.i64 (1686629713 + wrapV a) = 1686629713 + wrapV a := w64_in (by omega) (by omega)
  rw [e, sinV_eq (by unfold nb; omega), ← SG_per (1686629713 + wrapV a) j]
  congr 1; omega
theorem sinF_0 : sinF 0 = 0 := by
  have h := sinF_neg (w := 0) (by unfold nb; omega)
  rw [Int.neg_zero] at h; omega
theorem fold_neg (w : Int) : foldV (-w) = -foldV w := by unfold foldV; (repeat' split) <;> omega
theorem SG_neg (a : Int) : SG (-a) = -SG a := by
  obtain ⟨b0, b1, j, hj⟩ := wrap_spec a
  unfold SG
  by_cases h : wrapV a = 3373259426
  · rw [wrap_unique (a := -a) (w := 3373259426) (k := -j - 1) (by omega) (by omega) (by omega), h, show foldV 3373259426 = 0 by decide, sinF_0]; rfl
  · rw [wrap_unique (a := -a) (w := -wrapV a) (k := -j) (by omega) (by omega) (by omega), fold_neg, sinF_neg (fold_bd b0 b1)]
theorem SG_half (a : Int) : SG (3373259426 - a) = SG a := by
  obtain ⟨b0, b1, j, hj⟩ := wrap_spec a
  unfold SG
  by_cases h : 0 ≤ wrapV a
  · rw [wrap_unique (a := 3373259426 - a) (w := 3373259426 - wrapV a) (k := -j) (by omega) (by omega) (by omega)]
    congr 1
    unfold foldV; (repeat' split) <;> omega
  · rw [wrap_unique (a := 3373259426 - a) (w := -3373259426 - wrapV a) (k := -j + 1) (by omega) (by omega) (by omega)]
    congr 1
    unfold foldV; (repeat' split) <;> omega
theorem SG_bd (a : Int) : nb (SG a) 1073741824 := by
  unfold SG sinF
  cases decide (fabsV (foldV (wrapV a)) ≤ 843314857)
  · exact mm_bd _
  · exact mm_bd _
theorem CG_bd (a : Int) : nb (CG a) 1073741824 := SG_bd _
/-- A quarter turn more. -/
theorem SG_q (a : Int) : SG (a + 1686629713) = CG a := by unfold CG; rw [Int.add_comm]
theorem CG_q (a : Int) : CG (a + 1686629713) = -SG a := by
  unfold CG
  rw [← SG_half, ← SG_neg]
  congr 1; omega
theorem CG_neg (a : Int) : CG (-a) = CG a := by
  unfold CG
  rw [← SG_half]
  congr 1; omega
theorem CG_co (a : Int) : CG (1686629713 - a) = SG a := by
  unfold CG
  rw [← SG_half a]
  congr 1; omega
theorem SG_co (a : Int) : SG (1686629713 - a) = CG a := by
  unfold CG
  rw [← SG_half (1686629713 - a)]
  congr 1; omega
theorem CG_half (a : Int) : CG (3373259426 - a) = -CG a := by
  unfold CG
  rw [← SG_neg]
  rw [← SG_per (1686629713 + (3373259426 - a)) (-1)]
  congr 1; omega
/-- Against the reference's. -/
theorem SG_err {w : Int} (hw : nb w 1686629713) : nb (2 * (MN * SG w - 1073741824 * Sp w)) (10 * MN) := by
  unfold nb at hw
  have e : SG w = sinF w := by
    unfold SG
    rw [wrap_unique (a := w) (w := w) (k := 0) (by omega) (by omega) (by omega)]
    congr 1
    unfold foldV; (repeat' split) <;> omega
  rw [e]; exact sinF_err hw
theorem CG_err {w : Int} (hw : nb w 1686629713) : nb (2 * (MN * CG w - 1073741824 * Cp w)) (11 * MN) := by
  have hM := MN_pos
  have key : ∀ v : Int, 0 ≤ v → v ≤ 1686629713 → nb (2 * (MN * CG v - 1073741824 * Cp v)) (11 * MN) := by
    intro v v0 v1
    have h := SG_err (w := 1686629713 - v) (by unfold nb; omega)
    rw [SG_co] at h
    obtain ⟨-, c⟩ := co_eq (w := v) (by unfold nb; omega)
    generalize MN * CG v = x at *
    generalize Sp (1686629713 - v) = y at *
    generalize Cp v = z at *
    generalize MN = M at *
    unfold nb at *
    omega
  unfold nb at hw
  rcases Int.le_total 0 w with h | h
  · exact key w h (by omega)
  · have := key (-w) (by omega) (by omega)
    rw [CG_neg, Cp_neg] at this
    exact this
end Go.Proofs.Ytaebmggjhjobnaa

/- The sine and the cosine of a sum of angles (within 28), and on the circle. Plain. -/
namespace Go.Proofs.Ytaebmggjhjobnaa
open Go.Lr Go.Tg
set_option linter.unusedVariables false
set_option linter.unusedSimpArgs false

/-- Two products of numbers, each near its reference. -/
theorem prod_err {M a b c d x y z w : Int} (hM : 0 < M) (ha : nb a 1073741824) (hb : nb b 1073741824) (hc : nb c 1073741824) (hd : nb d 1073741824)
    (ea : nb (2 * (M * a - 1073741824 * x)) (11 * M)) (eb : nb (2 * (M * b - 1073741824 * y)) (11 * M)) (ec : nb (2 * (M * c - 1073741824 * z)) (11 * M)) (ed : nb (2 * (M * d - 1073741824 * w)) (11 * M)) :
    nb (4 * (M * M * (a * b + c * d) - 1152921504606846976 * (x * y + z * w))) (M * M * 94489281000) := by
  have p1 := (((hb.mul ea).add (ha.mul eb)).add ((hd.mul ec).add (hc.mul ed))).lmul (show 0 ≤ M by omega)
  have p2 := (ea.mul eb).add (ec.mul ed)
  have e : 4 * (M * M * (a * b + c * d) - 1152921504606846976 * (x * y + z * w)) = 2 * (M * (b * (2 * (M * a - 1073741824 * x)) + a * (2 * (M * b - 1073741824 * y)) + (d * (2 * (M * c - 1073741824 * z)) + c * (2 * (M * d - 1073741824 * w)))))
      - (2 * (M * a - 1073741824 * x) * (2 * (M * b - 1073741824 * y)) + 2 * (M * c - 1073741824 * z) * (2 * (M * d - 1073741824 * w))) := by grind
  rw [e]
  have e1 : M * (1073741824 * (11 * M) + 1073741824 * (11 * M) + (1073741824 * (11 * M) + 1073741824 * (11 * M))) = 47244640256 * (M * M) := by grind
  have e2 : 11 * M * (11 * M) + 11 * M * (11 * M) = 242 * (M * M) := by grind
  rw [e1] at p1
  rw [e2] at p2
  have hMM : 0 ≤ M * M := Int.mul_nonneg (by omega) (by omega)
  have e3 : M * M * 94489281000 = 94489281000 * (M * M) := by grind
  rw [e3]
  unfold nb at p1 p2 ⊢
  generalize M * (b * (2 * (M * a - 1073741824 * x)) + a * (2 * (M * b - 1073741824 * y)) + (d * (2 * (M * c - 1073741824 * z)) + c * (2 * (M * d - 1073741824 * w)))) = A at *
  generalize 2 * (M * a - 1073741824 * x) * (2 * (M * b - 1073741824 * y)) + 2 * (M * c - 1073741824 * z) * (2 * (M * d - 1073741824 * w)) = B at *
  generalize M * M = MM at *
  omega
/-- From the reference's sum to the program's. -/
theorem sum_err {M X v r q : Int} (hM : 0 < M) (h1 : nb (4 * (M * M * X - 1152921504606846976 * q)) (M * M * 94489281000)) (h2 : nb (1099511627776 * (q - M * r)) (M * M)) (h3 : nb (2 * (M * v - 1073741824 * r)) (11 * M)) :
    nb (X - 1073741824 * v) 30064771072 := by
  refine nb.cancel (m := M * M) (Int.mul_pos hM hM) ?_
  have p3 := h3.lmul (show 0 ≤ M by omega)
  have e : M * M * (X - 1073741824 * v) = (M * M * X - 1152921504606846976 * q) + 1152921504606846976 * (q - M * r) - 1073741824 * (M * (M * v - 1073741824 * r)) := by grind
  have e1 : M * (2 * (M * v - 1073741824 * r)) = 2 * (M * (M * v - 1073741824 * r)) := by grind
  have e2 : M * (11 * M) = 11 * (M * M) := by grind
  rw [e1, e2] at p3
  rw [e]
  have hMM : 0 ≤ M * M := Int.mul_nonneg (by omega) (by omega)
  unfold nb at *
  generalize M * M * X - 1152921504606846976 * q = A at *
  generalize M * (M * v - 1073741824 * r) = B at *
  generalize q - M * r = D at *
  generalize M * M = MM at *
  omega
/-- The angles' sum. -/
def SumQ (a b : Int) : Prop := nb (CG a * CG b - SG a * SG b - 1073741824 * CG (a + b)) 30064771072 ∧ nb (SG a * CG b + CG a * SG b - 1073741824 * SG (a + b)) 30064771072
theorem sum_base {a b : Int} (ha : nb a 843314856) (hb : nb b 843314856) : SumQ a b := by
  have hM := MN_pos
  have hs : nb (a + b) 1686629713 := (ha.add hb).le (by omega)
  have a1 := CG_err (ha.le (show (843314856 : Int) ≤ 1686629713 by omega))
  have a2 := (SG_err (ha.le (show (843314856 : Int) ≤ 1686629713 by omega))).le (show 10 * MN ≤ 11 * MN by omega)
  have b1 := CG_err (hb.le (show (843314856 : Int) ≤ 1686629713 by omega))
  have b2 := (SG_err (hb.le (show (843314856 : Int) ≤ 1686629713 by omega))).le (show 10 * MN ≤ 11 * MN by omega)
  have s1 := CG_err hs
  have s2 := (SG_err hs).le (show 10 * MN ≤ 11 * MN by omega)
  have c := add_c (ha.le (show (843314856 : Int) ≤ 1700000000 by omega)) (hb.le (show (843314856 : Int) ≤ 1700000000 by omega))
  have s := add_s (ha.le (show (843314856 : Int) ≤ 1700000000 by omega)) (hb.le (show (843314856 : Int) ≤ 1700000000 by omega))
  have neg : ∀ {u v : Int}, nb (2 * (MN * u - 1073741824 * v)) (11 * MN) → nb (2 * (MN * -u - 1073741824 * -v)) (11 * MN) := by
    intro u v h
    have e : 2 * (MN * -u - 1073741824 * -v) = -(2 * (MN * u - 1073741824 * v)) := by grind
    rw [e]; exact h.neg
  constructor
  · have p := prod_err hM (CG_bd a) (CG_bd b) (SG_bd a).neg (SG_bd b) a1 b1 (neg a2) b2
    have q := sum_err (v := CG (a + b)) (r := Cp (a + b)) hM p (by rw [Int.neg_mul]; exact c) s1
    rw [Int.neg_mul] at q
    exact q
  · have p := prod_err hM (SG_bd a) (CG_bd b) (CG_bd a) (SG_bd b) a2 b1 a1 b2
    exact sum_err hM p s s2
theorem sum_up {a b : Int} : SumQ (a + 1686629713) b ↔ SumQ a b := by
  unfold SumQ
  rw [show a + 1686629713 + b = a + b + 1686629713 by omega, CG_q, CG_q, SG_q, SG_q, Int.neg_mul, Int.neg_mul]
  generalize CG a * CG b = x
  generalize SG a * SG b = y
  generalize SG a * CG b = z
  generalize CG a * SG b = t
  unfold nb
  omega
theorem sum_comm {a b : Int} (h : SumQ a b) : SumQ b a := by
  unfold SumQ at *
  rw [Int.add_comm b a, Int.mul_comm (CG b), Int.mul_comm (SG b), Int.mul_comm (SG b), Int.mul_comm (CG b), Int.add_comm (CG a * SG b)]
  exact h
theorem sum_nat {a b : Int} : ∀ n : Nat, SumQ (a + n * 1686629713) b ↔ SumQ a b
  | 0 => by rw [show a + ((0 : Nat) : Int) * 1686629713 = a by omega]
  | n + 1 => by
    rw [show a + ((n + 1 : Nat) : Int) * 1686629713 = a + (n : Int) * 1686629713 + 1686629713 by omega, sum_up]
    exact sum_nat n
theorem sum_int {a b : Int} (k : Int) : SumQ (a + k * 1686629713) b ↔ SumQ a b := by
  rcases Int.le_total 0 k with h | h
  · have := sum_nat (a := a) (b := b) k.toNat
    rw [show ((k.toNat : Nat) : Int) = k by omega] at this
    exact this
  · have := sum_nat (a := a + k * 1686629713) (b := b) (-k).toNat
    rw [show a + k * 1686629713 + (((-k).toNat : Nat) : Int) * 1686629713 = a by
      rw [show (((-k).toNat : Nat) : Int) = -k by omega]; omega] at this
    exact this.symm
theorem to_base (a : Int) : ∃ x k, a = x + k * 1686629713 ∧ nb x 843314856 := by
  refine ⟨a - (a + 843314856) / 1686629713 * 1686629713, (a + 843314856) / 1686629713, by omega, ?_⟩
  unfold nb; omega
/-- The sum of any two angles. -/
theorem sum_all (a b : Int) : SumQ a b := by
  obtain ⟨x, k, rfl, hx⟩ := to_base a
  obtain ⟨y, l, rfl, hy⟩ := to_base b
  exact (sum_int k).2 (sum_comm ((sum_int l).2 (sum_comm (sum_base hx hy))))
theorem CG_0 : CG 0 = 1073741824 := by decide +kernel
theorem SG_0 : SG 0 = 0 := by decide +kernel
/-- On the circle. -/
theorem on_circle (a : Int) : nb (CG a * CG a + SG a * SG a - 1152921504606846976) 30064771072 := by
  have h := (sum_all a (-a)).1
  rw [CG_neg, SG_neg, show a + -a = 0 by omega, CG_0, Int.mul_neg] at h
  generalize CG a * CG a = x at *
  generalize SG a * SG a = y at *
  unfold nb at *
  omega
/-- The difference of two angles. -/
theorem dif_all (a b : Int) : nb (CG a * CG b + SG a * SG b - 1073741824 * CG (a - b)) 30064771072 ∧ nb (SG a * CG b - CG a * SG b - 1073741824 * SG (a - b)) 30064771072 := by
  have h := sum_all a (-b)
  unfold SumQ at h
  rw [CG_neg, SG_neg, show a + -b = a - b by omega, Int.mul_neg, Int.mul_neg] at h
  generalize CG a * CG b = x at *
  generalize SG a * SG b = y at *
  generalize SG a * CG b = z at *
  generalize CG a * SG b = t at *
  unfold nb at *
  omega
end Go.Proofs.Ytaebmggjhjobnaa

/- The program's angle of a tangent against the reference's sine and cosine. Plain. -/
namespace Go.Proofs.Ytaebmggjhjobnaa
open Go.Lr Go.Tg
set_option linter.unusedVariables false
set_option linter.unusedSimpArgs false

def pcomp : List Int → List Int → List Int
  | [], _ => []
  | a :: l, q => padd [a] (pmul q (pcomp l q))
theorem pv_comp (q : List Int) (x : Int) : ∀ l : List Int, pv (pcomp l q) x = pv l (pv q x)
  | [] => rfl
  | a :: l => by simp only [pcomp, pv_add, pv_mul, pv, pv_comp q x l]; grind
def scl (V : Int) : List Int → List Int
  | [] => []
  | a :: l => (a * V ^ l.length) :: scl V l
theorem pv_scl (V r : Int) : ∀ l : List Int, V * pv (scl V l) (r * V) = V ^ l.length * pv l r
  | [] => by simp [scl, pv]
  | a :: l => by
    have h := pv_scl V r l
    simp only [scl, pv, List.length_cons, Int.pow_succ]
    have e : V * (a * V ^ l.length + r * V * pv (scl V l) (r * V)) = V * (a * V ^ l.length) + V * r * (V * pv (scl V l) (r * V)) := by grind
    rw [e, h]; grind
/-- The angle's series, times the tangent, at the scale V; the sine and the cosine cut at the eleventh. -/
def VV : Int := 1073741824 ^ 23
def atNl : List Int := 0 :: sprd (hL [-46684427] 1 atL)
def sinT : List Int := sinL.take 12
def cosT : List Int := cosL.take 12
def sinTV : List Int := scl VV sinT
def cosTV : List Int := scl VV cosT
/-- Every second coefficient. -/
def everyL : List Int → List Int
  | [] => []
  | [a] => [a]
  | a :: _ :: l => a :: everyL l
def sigV : List Int := everyL sinTV.tail
def gamV : List Int := everyL cosTV
def atP : List Int := hL [-46684427] 1 atL
def atQ : List Int := 0 :: pmul atP atP
def atH : List Int := padd (psm 1073741824 (pmul atP (pcomp sigV atQ))) (psm (-1) (pcomp gamV atQ))
theorem pv_last (x : Int) : ∀ l : List Int, pv (l ++ [0]) x = pv l x
  | [] => by simp [pv]
  | a :: l => by simp only [List.cons_append, pv, pv_last x l]
theorem sig_eq (X : Int) : pv sinTV X = X * pv sigV (X * X) := by
  have e : sinTV ++ [0] = 0 :: sprd sigV := by kernel_rfl
  rw [← pv_last, e]; simp only [pv, pv_sprd]; omega
theorem gam_eq (X : Int) : pv cosTV X = pv gamV (X * X) := by
  have e : cosTV = sprd gamV := by kernel_rfl
  rw [e, pv_sprd]
theorem chk5 : leB (444758427 * (2 * pv (pabs atH) 197810058387514329)) (MN * VV ^ 11) = true := by kernel_rfl
theorem at_comp {t : Int} (ht : nb t 444758427) : nb (2 * (1073741824 * pv sinTV (pv atNl t) - t * pv cosTV (pv atNl t))) (MN * VV ^ 11) := by
  have hy := ht.mul ht
  have h1 := ht.mul (nb.of (pv_abs hy.abs atH))
  have h2 := leB_le chk5
  have e : 1073741824 * pv sinTV (pv atNl t) - t * pv cosTV (pv atNl t) = t * pv atH (t * t) := by
    have en : pv atNl t = t * pv atP (t * t) := by unfold atNl; simp only [pv, pv_sprd]; rw [show hL [-46684427] 1 atL = atP from rfl]; omega
    have eq : pv atNl t * pv atNl t = pv atQ (t * t) := by rw [en]; unfold atQ; simp only [pv, pv_mul]; grind
    rw [sig_eq, gam_eq, eq, en]
    unfold atH
    rw [pv_add, pv_sm, pv_sm, pv_mul, pv_comp, pv_comp]; grind
  rw [e]
  rw [show (444758427 : Int) * 444758427 = 197810058387514329 by decide] at h1
  unfold nb at *
  omega
theorem chk6 : leB (1073741824 * (11 * VV * lip sinTV (480000000 * VV))) (15 * (MN * VV ^ 11)) = true := by kernel_rfl
theorem chk7 : leB (444758427 * (11 * VV * lip cosTV (480000000 * VV))) (5 * (MN * VV ^ 11)) = true := by kernel_rfl
theorem chk8 : leB (1073741824 * (1024 * pv (pabs (padd sinL (pneg sinT))) 480000000)) MN = true := by kernel_rfl
theorem chk9 : leB (444758427 * (1024 * pv (pabs (padd cosL (pneg cosT))) 480000000)) MN = true := by kernel_rfl
theorem atW : hW 1 atL = 1073741824 ^ 22 := by decide +kernel
/-- An angle near the series' is one whose tangent it is. -/
theorem at_ref {t r : Int} (ht : nb t 444758427) (hr : nb r 480000000) (hN : nb (pv atNl t) (480000000 * VV)) (h : nb (5 * (r * VV - pv atNl t)) (11 * VV)) : nb (1073741824 * Sp r - t * Cp r) (5 * MN) := by
  have hM := MN_pos
  have hV : 0 < VV := by decide +kernel
  have hV11 : 0 < VV ^ 11 := by decide +kernel
  have g := at_comp ht
  have hrV : nb (r * VV) (480000000 * VV) := by
    have := hr.mul (show nb VV VV by unfold nb; omega)
    exact this
  have d5 : (((5 * r * VV - 5 * pv atNl t).natAbs : Int)) ≤ 11 * VV := by
    have e : 5 * r * VV - 5 * pv atNl t = 5 * (r * VV - pv atNl t) := by grind
    rw [e]; exact h.abs
  have dd : ((r * VV - pv atNl t).natAbs : Int) ≤ (r * VV - pv atNl t).natAbs := Int.le_refl _
  have l1 := nb.of (pv_lip hrV.abs hN.abs dd sinTV)
  have l2 := nb.of (pv_lip hrV.abs hN.abs dd cosTV)
  have d : 5 * ((r * VV - pv atNl t).natAbs : Int) ≤ 11 * VV := by have := h.abs; omega
  have c6 := leB_le chk6
  have c7 := leB_le chk7
  have n1 : 0 ≤ lip sinTV (480000000 * VV) := by decide +kernel
  have n2 : 0 ≤ lip cosTV (480000000 * VV) := by decide +kernel
  have m1 := Int.mul_le_mul_of_nonneg_right d n1
  have m2 := Int.mul_le_mul_of_nonneg_right d n2
  have s1 := pv_scl VV r sinT
  have s2 := pv_scl VV r cosT
  rw [show sinT.length = 12 by rfl] at s1
  rw [show cosT.length = 12 by rfl] at s2
  have e1 : pv sinTV (r * VV) = VV ^ 11 * pv sinT r := by
    have h12 : VV ^ 12 = VV * VV ^ 11 := by rw [Int.mul_comm]; exact Int.pow_succ VV 11
    rw [h12, Int.mul_assoc] at s1
    exact Int.eq_of_mul_eq_mul_left (by omega) s1
  have e2 : pv cosTV (r * VV) = VV ^ 11 * pv cosT r := by
    have h12 : VV ^ 12 = VV * VV ^ 11 := by rw [Int.mul_comm]; exact Int.pow_succ VV 11
    rw [h12, Int.mul_assoc] at s2
    exact Int.eq_of_mul_eq_mul_left (by omega) s2
  have t1 := nb.of (pv_abs hr.abs (padd sinL (pneg sinT)))
  have t2 := nb.of (pv_abs hr.abs (padd cosL (pneg cosT)))
  rw [pv_add, pv_pneg] at t1 t2
  have c8 := leB_le chk8
  have c9 := leB_le chk9
  have l2t := ht.mul l2
  have t2t := ht.mul t2
  rw [e1] at l1
  rw [e2] at l2t
  change nb (Sp r + -pv sinT r) _ at t1
  change nb (t * (Cp r + -pv cosT r)) _ at t2t
  generalize pv sinTV (pv atNl t) = FS at *
  generalize pv cosTV (pv atNl t) = FC at *
  generalize pv (pabs (padd sinL (pneg sinT))) 480000000 = b1 at *
  generalize pv (pabs (padd cosL (pneg cosT))) 480000000 = b2 at *
  generalize ((r * VV - pv atNl t).natAbs : Int) = D at *
  generalize lip sinTV (480000000 * VV) = L1 at *
  generalize lip cosTV (480000000 * VV) = L2 at *
  generalize pv sinT r = ps at *
  generalize pv cosT r = pc at *
  generalize Sp r = sr at *
  generalize Cp r = cr at *
  have k1 : 1073741824 * (11 * VV * L1) ≤ 15 * (MN * VV ^ 11) := c6
  have k2 : 444758427 * (11 * VV * L2) ≤ 5 * (MN * VV ^ 11) := c7
  generalize VV * L1 = VL1 at *
  refine nb.cancel (m := VV ^ 11) hV11 ?_
  have q1 := t1.lmul (show 0 ≤ VV ^ 11 by omega)
  have q2 := t2t.lmul (show 0 ≤ VV ^ 11 by omega)
  have q8 := Int.mul_le_mul_of_nonneg_left c8 (show 0 ≤ VV ^ 11 by omega)
  have q9 := Int.mul_le_mul_of_nonneg_left c9 (show 0 ≤ VV ^ 11 by omega)
  generalize VV ^ 11 = V at *
  generalize MN = M at *
  have e : V * (1073741824 * sr - t * cr) = 1073741824 * (V * (sr + -ps)) - V * (t * (cr + -pc)) + 1073741824 * (V * ps - FS) - t * (V * pc - FC) + (1073741824 * FS - t * FC) := by grind
  rw [e]
  have e3 : V * (5 * M) = 5 * (M * V) := by grind
  have e4 : V * (1073741824 * (1024 * b1)) = 1099511627776 * (V * b1) := by grind
  have e5 : V * (444758427 * (1024 * b2)) = 1024 * (V * (444758427 * b2)) := by grind
  have e6 : V * M = M * V := Int.mul_comm ..
  rw [e3]
  rw [e4, e6] at q8
  rw [e5, e6] at q9
  have e7 : 11 * VV * L1 = 11 * VV * L1 := rfl
  have e8 : 5 * D * L1 = 5 * (D * L1) := by grind
  have e9 : 5 * D * L2 = 5 * (D * L2) := by grind
  rw [e8] at m1
  rw [e9] at m2
  unfold nb at *
  generalize V * (sr + -ps) = A at *
  generalize V * (t * (cr + -pc)) = B at *
  generalize V * ps - FS = Y at *
  generalize t * (V * pc - FC) = Z at *
  generalize 1073741824 * FS - t * FC = X at *
  generalize 11 * VV * L1 = X1 at *
  generalize 11 * VV * L2 = X2 at *
  generalize D * L1 = D1 at *
  generalize D * L2 = D2 at *
  generalize M * V = MV at *
  generalize V * b1 = B1 at *
  generalize V * (444758427 * b2) = B2 at *
  omega
theorem chk10 : leB (pv (pabs atNl) 444758427) (479000000 * VV) = true := by kernel_rfl
/-- The angle of a small tangent. -/
def coreM (t : Int) : Int := mulV t (serV (mulV t t 30) (-46684427) atL) 30
theorem core_ser {t : Int} (ht : nb t 444758427) : ∃ S, coreM t = mulV t S 30 ∧ 815000000 ≤ S ∧ S ≤ 1332000000 ∧ nb (S * 1073741824 ^ 22 - pv (hL [-46684427] 1 atL) (t * t)) (4 * 1073741824 ^ 22) ∧ nb (2 * (coreM t * 1073741824 - t * S)) 1073741824 := by
  have h2 := ht.mul ht
  have q0 : 0 ≤ t * t := by
    rcases Int.le_total 0 t with k | k
    · exact Int.mul_nonneg k k
    · exact Int.mul_nonneg_of_nonpos_of_nonpos k k
  have q1 : t * t ≤ 197810058387514329 := by unfold nb at h2; omega
  have hz := mul30 (ht.le (show (444758427 : Int) ≤ 4294967296 by omega)) (ht.le (show (444758427 : Int) ≤ 4294967296 by omega))
  have hl : atL = [51130563, -56512728, 63161284, -71582788, 82595525, -97612893, 119304647, -153391689, 214748365, -357913941] ++ [1073741824] := rfl
  have hk : ∀ k ∈ [51130563, -56512728, 63161284, -71582788, 82595525, -97612893, 119304647, -153391689, 214748365, -357913941], nb k 536870912 := by unfold nb; simp
  obtain ⟨a0, a1, -⟩ := ser_all (a := -46684427) q0 (by omega) hz (by unfold nb; omega) hk
  obtain ⟨b0, -, -⟩ := ser_err (x2 := t * t) q0 (by omega) hz _ (-46684427) (-46684427) 1 (by omega) hk (by unfold nb; omega) (by unfold nb; omega)
  have ea := ser_app (mulV t t 30) 1073741824 [51130563, -56512728, 63161284, -71582788, 82595525, -97612893, 119304647, -153391689, 214748365, -357913941] (-46684427)
  rw [← hl] at a0 a1 ea
  have zb : nb (mulV t t 30) 184230000 := by unfold nb at hz ⊢; omega
  have hm := mul30 (zb.le (show (184230000 : Int) ≤ 4294967296 by omega)) (b0.le (show (1503238553 : Int) ≤ 4294967296 by omega))
  have hzs := zb.mul b0
  generalize serV (mulV t t 30) (-46684427) [51130563, -56512728, 63161284, -71582788, 82595525, -97612893, 119304647, -153391689, 214748365, -357913941] = s1 at *
  have mb : nb (mulV (mulV t t 30) s1 30) 258100000 := by unfold nb at *; omega
  rw [addnb (by unfold nb; omega) (mb.le (by omega))] at ea
  rw [atW] at a1
  refine ⟨serV (mulV t t 30) (-46684427) atL, rfl, ?_, ?_, a1, mul30 (ht.le (by omega)) (a0.le (by omega))⟩
  · rw [ea]; unfold nb at mb; omega
  · rw [ea]; unfold nb at mb; omega
theorem core_tan {t : Int} (ht : nb t 444758427) : nb (1073741824 * SG (coreM t) - t * CG (coreM t)) 13958643712 ∧ nb (coreM t) 480000000 ∧ (0 < t → 0 < coreM t) ∧ (t = 0 → coreM t = 0) ∧ (t < 0 → coreM t < 0) := by
  obtain ⟨S, -, S0, S1, hS, hm⟩ := core_ser ht
  generalize coreM t = r at *
  have hM := MN_pos
  have hV : 0 < VV := by decide +kernel
  have nN := ht.abs
  have n1 := nb.of (pv_abs ht.abs atNl)
  have c10 := leB_le chk10
  have n2 : nb (pv atNl t) (479000000 * VV) := n1.le c10
  have en : pv atNl t = t * pv (hL [-46684427] 1 atL) (t * t) := by unfold atNl; simp only [pv, pv_sprd]; omega
  have hd : nb (5 * (r * VV - pv atNl t)) (11 * VV) := by
    rw [en]
    have b1 := ht.mul hS
    have e : 2 * (r * VV - t * pv (hL [-46684427] 1 atL) (t * t)) = 1073741824 ^ 22 * (2 * (r * 1073741824 - t * S)) + 2 * (t * (S * 1073741824 ^ 22 - pv (hL [-46684427] 1 atL) (t * t))) := by
      rw [show VV = 1073741824 * 1073741824 ^ 22 by decide +kernel]; grind
    have ev : VV = 1073741824 ^ 23 := rfl
    generalize pv (hL [-46684427] 1 atL) (t * t) = p at *
    rw [ev] at *
    unfold nb at *
    generalize t * (S * 1073741824 ^ 22 - p) = A at *
    generalize 2 * (r * 1073741824 - t * S) = B at *
    generalize r * 1073741824 ^ 23 - t * p = X at *
    omega
  have hr : nb r 480000000 := by
    generalize pv atNl t = N at *
    have k : nb (r * VV) (479000003 * VV) := by
      unfold nb at *
      generalize VV = V at *
      generalize r * V = rV at *
      omega
    have := nb.cancel (a := r) (k := 479000003) hV (by rw [Int.mul_comm VV r, Int.mul_comm VV]; exact k)
    exact this.le (by omega)
  have hf := at_ref ht hr (n2.le (by omega)) hd
  have s := (SG_err (hr.le (show (480000000 : Int) ≤ 1686629713 by omega))).lmul (show (0 : Int) ≤ 1073741824 by omega)
  have c := ht.mul (CG_err (hr.le (show (480000000 : Int) ≤ 1686629713 by omega)))
  refine ⟨?_, hr, ?_, ?_, ?_⟩
  · refine nb.cancel hM ?_
    have e : 2 * (MN * (1073741824 * SG r - t * CG r)) = 1073741824 * (2 * (MN * SG r - 1073741824 * Sp r)) - t * (2 * (MN * CG r - 1073741824 * Cp r)) + 2147483648 * (1073741824 * Sp r - t * Cp r) := by grind
    unfold nb at *
    generalize MN * (1073741824 * SG r - t * CG r) = X at *
    generalize 2 * (MN * SG r - 1073741824 * Sp r) = A at *
    generalize t * (2 * (MN * CG r - 1073741824 * Cp r)) = B at *
    generalize 1073741824 * Sp r - t * Cp r = D at *
    generalize MN = M at *
    omega
  · intro h
    have := Int.mul_le_mul (show 1 ≤ t by omega) S0 (by omega) (by omega)
    unfold nb at hm; omega
  · rintro rfl
    unfold nb at hm; omega
  · intro h
    have := Int.mul_le_mul (show 1 ≤ -t by omega) S0 (by omega) (by omega)
    rw [Int.neg_mul] at this
    unfold nb at hm; omega
end Go.Proofs.Ytaebmggjhjobnaa

/- The program's angle of a point: the point lies in that direction (within 81). Plain. -/
namespace Go.Proofs.Ytaebmggjhjobnaa
open Go.Lr Go.Tg
set_option linter.unusedVariables false
set_option linter.unusedSimpArgs false

theorem chk11 : leB (100 * pv (pabs (padd cosL [-MN])) 843400000) (33 * MN) = true := by kernel_rfl
theorem CG_low {r : Int} (hr : nb r 843400000) : 700000000 ≤ CG r := by
  have h := nb.of (pv_abs hr.abs (padd cosL [-MN]))
  have c := leB_le chk11
  rw [pv_add] at h
  have e := CG_err (hr.le (show (843400000 : Int) ≤ 1686629713 by omega))
  have hM := MN_pos
  change nb (Cp r + (-MN + r * 0)) _ at h
  generalize pv (pabs (padd cosL [-MN])) 843400000 = b at *
  generalize Cp r = cp at *
  rw [Int.mul_zero, Int.add_zero] at h
  rcases Int.lt_or_le (CG r) 700000000 with g | g
  · exfalso
    have := Int.mul_le_mul_of_nonneg_left (show CG r ≤ 699999999 by omega) (show 0 ≤ MN by omega)
    unfold nb at *
    generalize MN * CG r = X at *
    generalize MN = M at *
    omega
  · exact g
theorem CG_E : CG 843314857 = 759250124 := by decide +kernel
theorem SG_E : SG 843314857 = 759250125 := by decide +kernel
/-- A tangent above the sixteenth's, less an eighth turn. -/
theorem tt_ok {t : Int} (h0 : 444758427 ≤ t) (h1 : t ≤ 1073741824) : -444758427 ≤ ttV true t ∧ ttV true t ≤ 0 ∧ nb (2 * (ttV true t * (t + 1073741824) - (t - 1073741824) * 1073741824)) (t + 1073741824) := by
  have e1 : wr IntKind.i64 (t - 1073741824) = t - 1073741824 := w64_in (by omega) (by omega)
  have e2 : wr IntKind.i64 (t + 1073741824) = t + 1073741824 := w64_in (by omega) (by omega)
  have hd : divV ((t - 1073741824) * 1073741824) (t + 1073741824) = -quoR ((1073741824 - t) * 1073741824) (t + 1073741824) := by
    unfold divV
    rw [absV_neg (a := (t - 1073741824) * 1073741824) (by omega), absV_pos (a := t + 1073741824) (by omega)]
    have e : -((t - 1073741824) * 1073741824) = (1073741824 - t) * 1073741824 := by omega
    rw [e, decide_eq_false (show ¬ t + 1073741824 < 0 by omega)]
    by_cases h : (t - 1073741824) * 1073741824 < 0
    · rw [decide_eq_true h]; rfl
    · have : t = 1073741824 := by omega
      subst this; decide
  have hq := quo_bd (a := (1073741824 - t) * 1073741824) (b := t + 1073741824) (by omega) (by omega)
  have hn : 0 ≤ quoR ((1073741824 - t) * 1073741824) (t + 1073741824) := by
    have := Int.ediv_nonneg (a := (1073741824 - t) * 1073741824) (b := t + 1073741824) (by omega) (by omega)
    unfold quoR; split <;> omega
  have hle : quoR ((1073741824 - t) * 1073741824) (t + 1073741824) ≤ 444758427 := by
    rcases Int.lt_or_le 444758427 (quoR ((1073741824 - t) * 1073741824) (t + 1073741824)) with h | h
    · exfalso
      have : 444758428 * (t + 1073741824) ≤ quoR ((1073741824 - t) * 1073741824) (t + 1073741824) * (t + 1073741824) := Int.mul_le_mul_of_nonneg_right (by omega) (by omega)
      omega
    · exact h
  have ev : ttV true t = -quoR ((1073741824 - t) * 1073741824) (t + 1073741824) := by
    show divPV (wr IntKind.i64 (t - 1073741824)) (wr IntKind.i64 (t + 1073741824)) 30 = _
    rw [e1, e2]
    have e : pow2 (Int.toNat 30) = 1073741824 := rfl
    unfold divPV byV
    rw [if_neg (by decide), if_neg (by decide), e, sat_in (a := t - 1073741824) (by omega) (by omega), sat_in (a := t + 1073741824) (by omega) (by omega), if_neg (by omega), hd, sat_in (by omega) (by omega)]
  rw [ev]
  generalize quoR ((1073741824 - t) * 1073741824) (t + 1073741824) = q at *
  refine ⟨by omega, by omega, ?_⟩
  unfold nb
  rw [Int.neg_mul]
  generalize q * (t + 1073741824) = p at *
  omega
/-- The angle of a tangent up to one. -/
def coreA (t : Int) : Int := r0V (decide (t > 444758426)) t
theorem core_big {t q r : Int} (h0 : 0 ≤ t) (h1 : t ≤ 1073741824) (hq : nb (2 * (q * (t + 1073741824) - (t - 1073741824) * 1073741824)) (t + 1073741824)) (hr : nb (1073741824 * SG r - q * CG r) 13958643712) :
    nb (1073741824 * SG (843314857 + r) - t * CG (843314857 + r)) 85899345920 := by
  have hs := sum_all 843314857 r
  unfold SumQ at hs
  rw [CG_E, SG_E] at hs
  obtain ⟨s1, s2⟩ := hs
  have cb := CG_bd r
  have sb := SG_bd r
  generalize CG (843314857 + r) = C at *
  generalize SG (843314857 + r) = S at *
  generalize CG r = c at *
  generalize SG r = s at *
  have tn : nb t 1073741824 := ⟨by omega, h1⟩
  have a1 := tn.mul s1
  have a2 := tn.mul sb
  have a4 := tn.mul cb
  have a3 := (show nb (t + 1073741824) 2147483648 by unfold nb; omega).mul hr
  have a5 := hq.mul cb
  have a5' : nb (2 * (q * (t + 1073741824) - (t - 1073741824) * 1073741824) * c) (2147483648 * 1073741824) := a5.le (Int.mul_le_mul_of_nonneg_right (by omega) (by omega))
  -- U * G, where G = (U - t) c + (U + t) s
  have g : 2 * (1073741824 * ((1073741824 - t) * c + (1073741824 + t) * s)) = 2 * ((t + 1073741824) * (1073741824 * s - q * c)) + 2 * (q * (t + 1073741824) - (t - 1073741824) * 1073741824) * c := by grind
  have gb : nb ((1073741824 - t) * c + (1073741824 + t) * s) 28991029248 := by
    unfold nb at a3 a5' ⊢
    generalize (t + 1073741824) * (1073741824 * s - q * c) = A at *
    generalize 2 * (q * (t + 1073741824) - (t - 1073741824) * 1073741824) * c = B at *
    generalize (1073741824 - t) * c + (1073741824 + t) * s = G at *
    omega
  have e : 1073741824 * (1073741824 * S - t * C) = 759250124 * ((1073741824 - t) * c + (1073741824 + t) * s) + 1073741824 * c + t * s - 1073741824 * (759250125 * c + 759250124 * s - 1073741824 * S) + t * (759250124 * c - 759250125 * s - 1073741824 * C) := by grind
  refine nb.cancel (m := 1073741824) (by omega) ?_
  rw [e]
  unfold nb at *
  generalize (1073741824 - t) * c + (1073741824 + t) * s = G at *
  generalize t * (759250124 * c - 759250125 * s - 1073741824 * C) = X at *
  generalize t * s = Y at *
  omega
theorem core_dir {t : Int} (h0 : 0 ≤ t) (h1 : t ≤ 1073741824) : nb (1073741824 * SG (coreA t) - t * CG (coreA t)) 85899345920 ∧ 0 ≤ coreA t ∧ coreA t ≤ 843314857 ∧ (0 < t → 0 < coreA t) ∧ (t = 0 → coreA t = 0) := by
  unfold coreA r0V
  by_cases hb : t > 444758426
  · rw [decide_eq_true hb]
    obtain ⟨b0, b1, b2⟩ := tt_ok (t := t) (by omega) h1
    generalize ttV true t = q at *
    simp only [cond_true]
    have hc := core_tan (t := q) (by unfold nb; omega)
    rw [show mulV q (serV (mulV q q 30) (-46684427) atL) 30 = coreM q from rfl]
    obtain ⟨c1, c2, c3, c4, c5⟩ := hc
    have hle : coreM q ≤ 0 := by
      rcases Int.lt_or_le q 0 with k | k
      · exact Int.le_of_lt (c5 k)
      · exact Int.le_of_eq (c4 (by omega))
    unfold nb at c2
    rw [wr_i, w64_in (by omega) (by omega)]
    exact ⟨core_big h0 h1 b2 c1, by omega, by omega, by omega, by omega⟩
  · rw [decide_eq_false hb]
    show nb (1073741824 * SG (wr IntKind.i64 (0 + coreM t)) - t * CG (wr IntKind.i64 (0 + coreM t))) 85899345920 ∧ 0 ≤ wr IntKind.i64 (0 + coreM t) ∧ wr IntKind.i64 (0 + coreM t) ≤ 843314857 ∧ (0 < t → 0 < wr IntKind.i64 (0 + coreM t)) ∧ (t = 0 → wr IntKind.i64 (0 + coreM t) = 0)
    obtain ⟨c1, c2, c3, c4, c5⟩ := core_tan (t := t) (by unfold nb; omega)
    have e : wr IntKind.i64 (0 + coreM t) = coreM t := by
      unfold nb at c2
      rw [wr_i, w64_in (by omega) (by omega)]; omega
    rw [e]
    have hle : 0 ≤ coreM t := by
      rcases Int.lt_or_le 0 t with k | k
      · exact Int.le_of_lt (c3 k)
      · exact Int.le_of_eq (c4 (by omega)).symm
    exact ⟨c1.le (by omega), hle, by unfold nb at c2; omega, c3, c4⟩

/-- The lesser and the greater side. -/
def mnB (y x : Int) : Int := if absV x < absV y then absV x else absV y
def mxB (y x : Int) : Int := if absV x > absV y then absV x else absV y
theorem fabs_in {a : Int} (h : nb a 576460752303423488) : fabsV (satV a) = absV a := by
  unfold nb at h
  rw [sat_in (by omega) (by omega)]
  unfold fabsV absV; (repeat' split) <;> omega
theorem mnB_eq {y x : Int} (hy : nb y 576460752303423488) (hx : nb x 576460752303423488) : mnV y x = mnB y x ∧ mxV y x = mxB y x := by
  unfold mnV mxV mnB mxB
  rw [fabs_in hy, fabs_in hx]; exact ⟨rfl, rfl⟩
theorem mB_bd {y x : Int} (hy : nb y 576460752303423488) (hx : nb x 576460752303423488) (h : y ≠ 0 ∨ x ≠ 0) :
    0 ≤ mnB y x ∧ mnB y x ≤ mxB y x ∧ 1 ≤ mxB y x ∧ mxB y x ≤ 576460752303423488 := by
  unfold nb at *
  unfold mnB mxB absV; (repeat' split) <;> omega
theorem divq' {v u : Int} (h0 : 0 ≤ v) (h1 : v ≤ u) (h2 : 1 ≤ u) (h3 : u ≤ 1152921504606846976) : divPV v u 30 = quoR (v * 1073741824) u ∧ 0 ≤ quoR (v * 1073741824) u ∧ quoR (v * 1073741824) u ≤ 1073741824 := by
  have hb := quo_bd (a := v * 1073741824) (b := u) (by omega) (by omega)
  have hd := div_pos (a := v * 1073741824) (b := u) (by omega) (by omega)
  have hn : 0 ≤ quoR (v * 1073741824) u := by
    have := Int.ediv_nonneg (a := v * 1073741824) (b := u) (by omega) (by omega)
    unfold quoR; split <;> omega
  have hle : quoR (v * 1073741824) u ≤ 1073741824 := by
    rcases Int.lt_or_le 1073741824 (quoR (v * 1073741824) u) with h | h
    · exfalso
      have : 1073741825 * u ≤ quoR (v * 1073741824) u * u := Int.mul_le_mul_of_nonneg_right (by omega) (by omega)
      omega
    · exact h
  refine ⟨?_, hn, hle⟩
  have e : pow2 (Int.toNat 30) = 1073741824 := rfl
  unfold divPV byV
  rw [if_neg (by decide), if_neg (by decide), e, sat_in (a := v) (by omega) (by omega), sat_in (a := u) (by omega) h3, if_neg (by omega), hd, sat_in (by omega) (by omega)]
/-- What the angle is, by the signs. -/
def angB (y x r : Int) : Int :=
  if y < 0 then -(if x < 0 then 3373259426 - (if absV y > absV x then 1686629713 - r else r) else (if absV y > absV x then 1686629713 - r else r)) else (if x < 0 then 3373259426 - (if absV y > absV x then 1686629713 - r else r) else (if absV y > absV x then 1686629713 - r else r))
theorem atanV_eq {y x : Int} (hy : nb y 576460752303423488) (hx : nb x 576460752303423488) (hne : y ≠ 0 ∨ x ≠ 0) :
    atanV y x = angB y x (coreA (quoR (mnB y x * 1073741824) (mxB y x))) := by
  obtain ⟨e1, e2⟩ := mnB_eq hy hx
  obtain ⟨b0, b1, b2, b3⟩ := mB_bd hy hx hne
  obtain ⟨q1, q2, q3⟩ := divq' b0 b1 b2 (by omega)
  obtain ⟨-, c0, c1, -, -⟩ := core_dir q2 q3
  have et : t0V y x = quoR (mnB y x * 1073741824) (mxB y x) := by unfold t0V; rw [e1, e2, q1]
  have f1 := fabs_in hy
  have f2 := fabs_in hx
  unfold nb at hy hx
  unfold atanV
  rw [cond_f (by rw [e2]; simp; omega), f1, f2, sat_in (a := y) (by omega) (by omega), sat_in (a := x) (by omega) (by omega), et]
  unfold atanB angB
  have ec : r0V (decide (quoR (mnB y x * 1073741824) (mxB y x) > 444758426)) (quoR (mnB y x * 1073741824) (mxB y x)) = coreA (quoR (mnB y x * 1073741824) (mxB y x)) := rfl
  rw [ec]
  generalize coreA (quoR (mnB y x * 1073741824) (mxB y x)) = r at *
  have w1 : wr IntKind.i64 (1686629713 - r) = 1686629713 - r := w64_in (by omega) (by omega)
  rw [w1]
  have hv0 : (bif decide (absV y > absV x) then 1686629713 - r else r) = if absV y > absV x then 1686629713 - r else r := by
    by_cases h : absV y > absV x
    · rw [decide_eq_true h, if_pos h]; rfl
    · rw [decide_eq_false h, if_neg h]; rfl
  rw [hv0]
  have hv : 0 ≤ (if absV y > absV x then 1686629713 - r else r) ∧ (if absV y > absV x then 1686629713 - r else r) ≤ 1686629713 := by split <;> omega
  generalize (if absV y > absV x then 1686629713 - r else r) = u at *
  have w2 : wr IntKind.i64 (3373259426 - u) = 3373259426 - u := w64_in (by omega) (by omega)
  rw [w2]
  have hu : (bif decide (x < 0) then 3373259426 - u else u) = if x < 0 then 3373259426 - u else u := by
    by_cases h : x < 0
    · rw [decide_eq_true h, if_pos h]; rfl
    · rw [decide_eq_false h, if_neg h]; rfl
  rw [hu]
  have hv2 : 0 ≤ (if x < 0 then 3373259426 - u else u) ∧ (if x < 0 then 3373259426 - u else u) ≤ 3373259426 := by split <;> omega
  generalize (if x < 0 then 3373259426 - u else u) = p at *
  have w3 : wr IntKind.i64 (0 - p) = -p := by have := w64_in (x := 0 - p) (by omega) (by omega); rw [wr_i, this]; omega
  rw [w3]
  by_cases h : y < 0
  · rw [decide_eq_true h, if_pos h]; rfl
  · rw [decide_eq_false h, if_neg h]; rfl
/-- The direction: across within 81 of the greater side; ahead. -/
def Dir (y x u r : Int) : Prop := nb (y * CG r - x * SG r) (81 * u) ∧ 699000000 * u ≤ x * CG r + y * SG r
theorem dir_base {t u v : Int} (hu : 1 ≤ u) (hv0 : 0 ≤ v) (hv1 : v ≤ u) (h0 : 0 ≤ t) (h1 : t ≤ 1073741824) (hq : nb (2 * (t * u - v * 1073741824)) u) : Dir v u u (coreA t) := by
  obtain ⟨d, c0, c1, -, -⟩ := core_dir h0 h1
  have cl := CG_low (r := coreA t) (by unfold nb; omega)
  have cb := CG_bd (coreA t)
  unfold Dir
  generalize coreA t = r at *
  generalize CG r = c at *
  generalize SG r = s at *
  have s0 : -81 ≤ s := by
    have := Int.mul_nonneg h0 (show 0 ≤ c by omega)
    unfold nb at d
    generalize t * c = tc at *
    omega
  constructor
  · refine nb.cancel (m := 1073741824) (by omega) ?_
    have a1 := d.lmul (show 0 ≤ u by omega)
    have a2 := hq.mul cb
    have e : 2 * (1073741824 * (v * c - u * s)) = -(2 * (t * u - v * 1073741824) * c) - 2 * (u * (1073741824 * s - t * c)) := by grind
    unfold nb at a1 a2 ⊢
    generalize 2 * (t * u - v * 1073741824) * c = A at *
    generalize u * (1073741824 * s - t * c) = B at *
    generalize v * c - u * s = X at *
    omega
  · have a1 := Int.mul_le_mul_of_nonneg_left cl (show 0 ≤ u by omega)
    have a2 := Int.mul_le_mul_of_nonneg_left s0 hv0
    have e1 : u * 700000000 = 700000000 * u := Int.mul_comm ..
    omega
theorem atan_dir {y x : Int} (hy : nb y 576460752303423488) (hx : nb x 576460752303423488) (hne : y ≠ 0 ∨ x ≠ 0) : Dir y x (mxB y x) (atanV y x) := by
  obtain ⟨b0, b1, b2, b3⟩ := mB_bd hy hx hne
  obtain ⟨q1, q2, q3⟩ := divq' b0 b1 b2 (by omega)
  have hb := quo_bd (a := mnB y x * 1073741824) (b := mxB y x) (by omega) (by omega)
  have hd := dir_base b2 b0 b1 q2 q3 (show nb _ _ from hb)
  rw [atanV_eq hy hx hne]
  generalize coreA (quoR (mnB y x * 1073741824) (mxB y x)) = r at *
  unfold Dir at *
  -- the steep ones
  have h1 : nb (absV y * CG (if absV y > absV x then 1686629713 - r else r) - absV x * SG (if absV y > absV x then 1686629713 - r else r)) (81 * mxB y x) ∧ 699000000 * mxB y x ≤ absV x * CG (if absV y > absV x then 1686629713 - r else r) + absV y * SG (if absV y > absV x then 1686629713 - r else r) := by
    by_cases h : absV y > absV x
    · have e1 : mnB y x = absV x := by unfold mnB; rw [if_pos (by omega)]
      have e2 : mxB y x = absV y := by unfold mxB; rw [if_neg (by omega)]
      rw [if_pos h, CG_co, SG_co]
      rw [e1, e2] at hd
      rw [e2]
      generalize absV x * CG r = A at *
      generalize absV y * SG r = B at *
      generalize absV y * CG r = C at *
      generalize absV x * SG r = D at *
      unfold nb at *
      omega
    · rw [if_neg h]
      by_cases h2 : absV x = absV y
      · have e1 : mnB y x = absV y := by unfold mnB; rw [if_neg (by omega)]
        have e2 : mxB y x = absV x := by unfold mxB; rw [if_neg (by omega)]; exact h2.symm
        rw [e1, e2] at hd; rw [e2]; exact hd
      · have e1 : mnB y x = absV y := by unfold mnB; rw [if_neg (by omega)]
        have e2 : mxB y x = absV x := by unfold mxB; rw [if_pos (by omega)]
        rw [e1, e2] at hd; rw [e2]; exact hd
  unfold angB
  generalize (if absV y > absV x then 1686629713 - r else r) = p at *
  have h2 : nb (absV y * CG (if x < 0 then 3373259426 - p else p) - x * SG (if x < 0 then 3373259426 - p else p)) (81 * mxB y x) ∧ 699000000 * mxB y x ≤ x * CG (if x < 0 then 3373259426 - p else p) + absV y * SG (if x < 0 then 3373259426 - p else p) := by
    by_cases h : x < 0
    · rw [if_pos h, CG_half, SG_half]
      rw [absV_neg (a := x) (by omega), Int.neg_mul, Int.neg_mul] at h1
      rw [Int.mul_neg, Int.mul_neg]
      generalize x * CG p = A at *
      generalize absV y * SG p = B at *
      generalize absV y * CG p = C at *
      generalize x * SG p = D at *
      unfold nb at *
      omega
    · rw [if_neg h]
      rw [absV_pos (a := x) (by omega)] at h1
      exact h1
  generalize (if x < 0 then 3373259426 - p else p) = g at *
  by_cases h : y < 0
  · rw [if_pos h, CG_neg, SG_neg]
    rw [absV_neg (a := y) (by omega), Int.neg_mul, Int.neg_mul] at h2
    rw [Int.mul_neg, Int.mul_neg]
    generalize x * CG g = A at *
    generalize y * SG g = B at *
    generalize y * CG g = C at *
    generalize x * SG g = D at *
    unfold nb at *
    omega
  · rw [if_neg h]
    rw [absV_pos (a := y) (by omega)] at h2
    exact h2
/-- Its bounds, and its sign. -/
theorem atan_sg {y x : Int} (hy : nb y 576460752303423488) (hx : nb x 576460752303423488) (hne : y ≠ 0 ∨ x ≠ 0) : nb (atanV y x) 3373259426 ∧ (0 ≤ y → 0 ≤ atanV y x) ∧ (y ≤ 0 → 0 ≤ x → atanV y x ≤ 0) ∧ (y < 0 → atanV y x ≤ 0) ∧ (0 ≤ x → nb (atanV y x) 1686629713) := by
  obtain ⟨b0, b1, b2, b3⟩ := mB_bd hy hx hne
  obtain ⟨q1, q2, q3⟩ := divq' b0 b1 b2 (by omega)
  obtain ⟨-, c0, c1, -, c3⟩ := core_dir q2 q3
  rw [atanV_eq hy hx hne]
  have hz : y = 0 → coreA (quoR (mnB y x * 1073741824) (mxB y x)) = 0 ∧ ¬ absV y > absV x := by
    rintro rfl
    refine ⟨c3 ?_, ?_⟩
    · have : mnB 0 x = 0 := by unfold mnB absV; (repeat' split) <;> omega
      rw [this, Int.zero_mul]
      exact quoR_zero (by omega)
    · unfold absV; (repeat' split) <;> omega
  generalize coreA (quoR (mnB y x * 1073741824) (mxB y x)) = r at *
  unfold angB nb
  by_cases h0 : y = 0
  · obtain ⟨z1, z2⟩ := hz h0
    rw [if_neg z2, z1]
    (repeat' split) <;> omega
  · (repeat' split) <;> omega
end Go.Proofs.Ytaebmggjhjobnaa

/- Nothing is clamped in sines, cosines, angles. Plain. -/
namespace Go.Proofs.Ytaebmggjhjobnaa
open Go.Lr Go.Tg
set_option linter.unusedVariables false
set_option linter.unusedSimpArgs false

theorem mulH30 {a b : Int} (ha : nb a 4294967296) (hb : nb b 4294967296) : mulH a b 30 = false := by
  have h := rnd_bd (a * b) 30
  rw [show pow2 30 = 1073741824 from rfl] at h
  have hp := ha.mul hb
  unfold nb at ha hb hp
  unfold mulH rndH
  rw [sat_in (a := a) (by omega) (by omega), sat_in (a := b) (by omega) (by omega), satH_in (a := a) (by omega) (by omega), satH_in (a := b) (by omega) (by omega), show Int.toNat 30 = 30 from rfl, satH_in (a := rndV (a * b) 30) (by omega) (by omega)]
  decide
theorem addHnb {a b : Int} (ha : nb a 4294967296) (hb : nb b 4294967296) : faddH [a, b] = false := by
  unfold nb at ha hb
  unfold faddH
  simp only [sumS, anyH]
  rw [sat_in (a := a) (by omega) (by omega), sat_in (a := b) (by omega) (by omega), satH_in (a := a) (by omega) (by omega), satH_in (a := b) (by omega) (by omega), satH_in (by omega) (by omega)]
  rfl
theorem serH_ok {z x2 : Int} (hx0 : 0 ≤ x2) (hx1 : x2 ≤ 711180000000000000) (hz : nb (2 * (z * 1073741824 - x2)) 1073741824) : ∀ (l : List Int) (h : Bool) (s p w : Int), 0 < w → (∀ k ∈ l, nb k 536870912) → nb s 1503238553 → nb (s * w - p) (4 * w) →
    serHb z h s l = h
  | [], h, s, p, w, hw, _, hs, he => rfl
  | k :: l, h, s, p, w, hw, hk, hs, he => by
    have hk0 := hk k (List.mem_cons_self ..)
    obtain ⟨e1, e2, e3⟩ := step hx0 hx1 hz hw (hk0.le (by omega)) hs he
    obtain ⟨z0, z1⟩ := z_bd hx0 hx1 hz
    simp only [serHb]
    rw [e1, mulH30 (⟨by omega, by omega⟩) (hs.le (by omega)), addHnb (hk0.le (by omega)) (e2.le (by omega)), Bool.or_false, Bool.or_false]
    refine serH_ok hx0 hx1 hz l h _ _ _ (by omega) (fun j hj => hk j (List.mem_cons_of_mem _ hj)) ?_ e3
    unfold nb at *; omega
theorem serH_app (z : Int) (k : Int) : ∀ (l : List Int) (h : Bool) (s : Int), serHb z h s (l ++ [k]) = (serHb z h s l || mulH z (serV z s l) 30 || faddH [k, mulV z (serV z s l) 30])
  | [], h, s => rfl
  | j :: l, h, s => by simp only [List.cons_append, serHb, serV]; exact serH_app z k l _ _
theorem serH_all {z x2 a : Int} {l : List Int} {h : Bool} (hx0 : 0 ≤ x2) (hx1 : x2 ≤ 711180000000000000) (hz : nb (2 * (z * 1073741824 - x2)) 1073741824) (ha : nb a 536870912) (hk : ∀ k ∈ l, nb k 536870912) :
    serHb z h a (l ++ [1073741824]) = h := by
  obtain ⟨b0, b1, b2⟩ := ser_err hx0 hx1 hz l a a 1 (by omega) hk (ha.le (by omega)) (by unfold nb; omega)
  obtain ⟨e1, e2, e3⟩ := step hx0 hx1 hz b2 (show nb 1073741824 1073741824 by unfold nb; omega) b0 b1
  obtain ⟨z0, z1⟩ := z_bd hx0 hx1 hz
  rw [serH_app, serH_ok hx0 hx1 hz l h a a 1 (by omega) hk (ha.le (by omega)) (by unfold nb; omega), mulH30 (⟨by omega, by omega⟩) (b0.le (by omega)), addHnb (by unfold nb; omega) (e2.le (by omega)), Bool.or_false, Bool.or_false]
theorem sinSH_ok {x : Int} {h : Bool} (hx : nb x 843314857) : sinSH x h = h := by
  obtain ⟨q0, q1⟩ := sqx_bd hx
  have hz := mul30 (hx.le (show (843314857 : Int) ≤ 4294967296 by omega)) (hx.le (show (843314857 : Int) ≤ 4294967296 by omega))
  have hl : sL1 = [2959, -213044, 8947849, -178956971] ++ [1073741824] := rfl
  obtain ⟨a0, a1, -⟩ := ser_all (a := -27) (l := [2959, -213044, 8947849, -178956971]) q0 q1 hz (by unfold nb; omega) (by unfold nb; simp)
  have hs := serH_all (a := -27) (l := [2959, -213044, 8947849, -178956971]) (h := h) q0 q1 hz (by unfold nb; omega) (by unfold nb; simp)
  rw [← hl] at a0 hs
  unfold sinSH
  rw [mulH30 (hx.le (by omega)) (hx.le (by omega)), Bool.or_false, hs, mulH30 (hx.le (by omega)) (a0.le (by omega)), Bool.or_false]
theorem sinGH_ok {x : Int} {h : Bool} (hx : nb x 843314857) : sinGH x h = h := by
  obtain ⟨q0, q1⟩ := sqx_bd hx
  have hz := mul30 (hx.le (show (843314857 : Int) ≤ 4294967296 by omega)) (hx.le (show (843314857 : Int) ≤ 4294967296 by omega))
  have hl : sL2 = [-296, 26631, -1491308, 44739243, -536870912] ++ [1073741824] := rfl
  have hs := serH_all (a := 2) (l := [-296, 26631, -1491308, 44739243, -536870912]) (h := h) q0 q1 hz (by unfold nb; omega) (by unfold nb; simp)
  rw [← hl] at hs
  unfold sinGH
  rw [mulH30 (hx.le (by omega)) (hx.le (by omega)), Bool.or_false, hs]
theorem sinFH_ok {w : Int} {h : Bool} (hw : nb w 1686629713) : sinFH w h = h := by
  have hf := fabs_sm (hw.le (show (1686629713 : Int) ≤ 1152921504606846975 by omega))
  unfold sinFH
  by_cases c : fabsV w ≤ 843314857
  · rw [decide_eq_true c, cond_true]
    refine sinSH_ok ?_
    rw [hf] at c; unfold nb; split at c <;> omega
  · rw [decide_eq_false c, cond_false]
    refine sinGH_ok ?_
    unfold sinX
    rw [hf] at c ⊢
    unfold nb at *
    by_cases n : w < 0
    · rw [if_pos n] at c ⊢; rw [wr_i, w64_in (by omega) (by omega)]; omega
    · rw [if_neg n] at c ⊢; rw [wr_i, w64_in (by omega) (by omega)]; omega
theorem sinH_ok {a : Int} {h : Bool} (ha : nb a 1152921504606846976) : sinH a h = h := by
  unfold nb at ha
  obtain ⟨b0, b1, -⟩ := wrap_spec a
  unfold sinH
  rw [satH_in (by omega) (by omega), Bool.or_false]
  refine sinFH_ok ?_
  unfold sinW
  rw [sat_in (a := a) (by omega) (by omega)]
  unfold nb
  by_cases c : wrapV a > 1686629713
  · rw [decide_eq_true c, cond_true, wr_i, w64_in (by omega) (by omega)]; omega
  · rw [decide_eq_false c, cond_false]
    by_cases d : wrapV a < -1686629713
    · rw [decide_eq_true d, cond_true, wr_i, w64_in (by omega) (by omega)]; omega
    · rw [decide_eq_false d, cond_false]; omega
theorem cosH_ok {a : Int} {h : Bool} : cosH a h = h := by
  obtain ⟨b0, b1, j, hj⟩ := wrap_spec a
  unfold cosH
  have e : wr IntKind.i64 (1686629713 + wrapV a) = 1686629713 + wrapV a := w64_in (by omega) (by omega)
  rw [e]
  exact sinH_ok (by unfold nb; omega)
theorem divH30 {v u : Int} (hv : nb v 576460752303423488) (hu : nb u 1152921504606846976) (hq : nb (divV (v * 1073741824) u) 1152921504606846976) (hu0 : u ≠ 0) : divPH v u 30 = false := by
  unfold nb at *
  unfold divPH byH
  have e : pow2 (Int.toNat 30) = 1073741824 := rfl
  rw [e, sat_in (a := v) (by omega) (by omega), sat_in (a := u) (by omega) (by omega), satH_in (a := v) (by omega) (by omega), satH_in (a := u) (by omega) (by omega), satH_in (a := divV (v * 1073741824) u) (by omega) (by omega)]
  have : (u == 0) = false := by simpa using hu0
  rw [this]; decide
/-- An angle's flag stays. -/
theorem atanH_ok {y x : Int} {h : Bool} (hy : nb y 576460752303423488) (hx : nb x 576460752303423488) : atanH y x h = h := by
  obtain ⟨e1, e2⟩ := mnB_eq hy hx
  have sy : satH y = false := by unfold nb at hy; exact satH_in (by omega) (by omega)
  have sx : satH x = false := by unfold nb at hx; exact satH_in (by omega) (by omega)
  unfold atanH
  rw [sy, sx, Bool.or_false, Bool.or_false]
  by_cases hz : mxV y x = 0
  · rw [cond_t (by simpa using hz)]
  · rw [cond_f (by simpa using hz)]
    have hne : y ≠ 0 ∨ x ≠ 0 := by
      rcases Int.lt_trichotomy y 0 with k | k | k
      · exact .inl (by omega)
      · rcases Int.lt_trichotomy x 0 with l | l | l
        · exact .inr (by omega)
        · exfalso; apply hz; rw [e2, k, l]; rfl
        · exact .inr (by omega)
      · exact .inl (by omega)
    obtain ⟨b0, b1, b2, b3⟩ := mB_bd hy hx hne
    obtain ⟨q1, q2, q3⟩ := divq' b0 b1 b2 (by omega)
    have et : t0V y x = quoR (mnB y x * 1073741824) (mxB y x) := by unfold t0V; rw [e1, e2, q1]
    have hd0 : divPH (mnV y x) (mxV y x) 30 = false := by
      rw [e1, e2]
      refine divH30 (by unfold nb; omega) (by unfold nb; omega) ?_ (by omega)
      rw [div_pos (by omega) (by omega)]; unfold nb; omega
    rw [et]
    unfold atanHB
    rw [et, hd0, Bool.or_false]
    generalize quoR (mnB y x * 1073741824) (mxB y x) = t at *
    have key : ∀ q : Int, nb q 444758427 → (serHb (mulV q q 30) (h || mulH q q 30) (-46684427) atL || mulH q (serV (mulV q q 30) (-46684427) atL) 30) = h := by
      intro q hq
      have h2 := hq.mul hq
      have q0 : 0 ≤ q * q := by
        rcases Int.le_total 0 q with k | k
        · exact Int.mul_nonneg k k
        · exact Int.mul_nonneg_of_nonpos_of_nonpos k k
      have q1 : q * q ≤ 197810058387514329 := by unfold nb at h2; omega
      have hz := mul30 (hq.le (show (444758427 : Int) ≤ 4294967296 by omega)) (hq.le (show (444758427 : Int) ≤ 4294967296 by omega))
      have hl : atL = [51130563, -56512728, 63161284, -71582788, 82595525, -97612893, 119304647, -153391689, 214748365, -357913941] ++ [1073741824] := rfl
      have hk : ∀ k ∈ [51130563, -56512728, 63161284, -71582788, 82595525, -97612893, 119304647, -153391689, 214748365, -357913941], nb k 536870912 := by unfold nb; simp
      obtain ⟨a0, a1, -⟩ := ser_all (a := -46684427) q0 (by omega) hz (by unfold nb; omega) hk
      have hs := serH_all (a := -46684427) (h := h) q0 (by omega) hz (by unfold nb; omega) hk
      rw [← hl] at a0 hs
      rw [mulH30 (hq.le (by omega)) (hq.le (by omega)), Bool.or_false, hs, mulH30 (hq.le (by omega)) (a0.le (by omega)), Bool.or_false]
    by_cases hb : t > 444758426
    · rw [decide_eq_true hb]
      obtain ⟨p0, p1, p2⟩ := tt_ok (t := t) (by omega) q3
      have ed : divPH (wr IntKind.i64 (t - 1073741824)) (wr IntKind.i64 (t + 1073741824)) 30 = false := by
        have w1 : wr IntKind.i64 (t - 1073741824) = t - 1073741824 := w64_in (by omega) (by omega)
        have w2 : wr IntKind.i64 (t + 1073741824) = t + 1073741824 := w64_in (by omega) (by omega)
        rw [w1, w2]
        refine divH30 (by unfold nb; omega) (by unfold nb; omega) ?_ (by omega)
        have ev : ttV true t = satV (divV ((t - 1073741824) * 1073741824) (t + 1073741824)) := by
          show divPV (wr IntKind.i64 (t - 1073741824)) (wr IntKind.i64 (t + 1073741824)) 30 = _
          rw [w1, w2]
          have e : pow2 (Int.toNat 30) = 1073741824 := rfl
          unfold divPV byV
          rw [if_neg (by decide), if_neg (by decide), e, sat_in (a := t - 1073741824) (by omega) (by omega), sat_in (a := t + 1073741824) (by omega) (by omega), if_neg (by omega)]
        rw [ev] at p0 p1
        have : satV (divV ((t - 1073741824) * 1073741824) (t + 1073741824)) = divV ((t - 1073741824) * 1073741824) (t + 1073741824) := by
          generalize divV ((t - 1073741824) * 1073741824) (t + 1073741824) = d at *
          unfold satV clampV at *
          (repeat' split at p0) <;> (repeat' split at p1) <;> (repeat' split) <;> omega
        rw [this] at p0 p1
        unfold nb; omega
      simp only [cond_true]
      rw [ed, Bool.or_false]
      exact key _ (by unfold nb; omega)
    · rw [decide_eq_false hb]
      exact key t (by unfold nb; omega)
end Go.Proofs.Ytaebmggjhjobnaa

/- The laws of sines, cosines and angles, in plain numbers. -/
namespace Go.Proofs.Ytaebmggjhjobnaa
open Go.Lr Go.Tg
set_option linter.unusedVariables false
set_option linter.unusedSimpArgs false

/-- From nought to a quarter the sine is not below nought. -/
theorem SG_nn {w : Int} (h0 : 0 ≤ w) (h1 : w ≤ 1686629713) : 0 ≤ SG w := by
  have e : SG w = sinF w := by
    unfold SG
    rw [wrap_unique (a := w) (w := w) (k := 0) (by omega) (by omega) (by omega)]
    congr 1
    unfold foldV; (repeat' split) <;> omega
  have hf := fabs_sm (w := w) (by unfold nb; omega)
  rw [if_neg (by omega)] at hf
  rw [e]
  unfold sinF
  rw [hf]
  have mmn : ∀ s : Int, 0 ≤ s → 0 ≤ mmV s := by intro s hs; rw [mm_def]; (repeat' split) <;> omega
  by_cases c : w ≤ 843314857
  · rw [decide_eq_true c, cond_true]
    refine mmn _ ?_
    have hx : nb w 843314857 := by unfold nb; omega
    obtain ⟨q0, q1⟩ := sqx_bd hx
    have hz := mul30 (hx.le (show (843314857 : Int) ≤ 4294967296 by omega)) (hx.le (show (843314857 : Int) ≤ 4294967296 by omega))
    have hk : ∀ k ∈ [2959, -213044, 8947849, -178956971], nb k 536870912 := by unfold nb; simp
    obtain ⟨b0, b1, b2⟩ := ser_err q0 q1 hz [2959, -213044, 8947849, -178956971] (-27) (-27) 1 (by omega) hk (by unfold nb; omega) (by unfold nb; omega)
    obtain ⟨e1, e2, e3⟩ := step q0 q1 hz b2 (show nb 1073741824 1073741824 by unfold nb; omega) b0 b1
    have hs := ser_app (mulV w w 30) 1073741824 [2959, -213044, 8947849, -178956971] (-27)
    rw [e1] at hs
    unfold sinS0
    rw [show sL1 = [2959, -213044, 8947849, -178956971] ++ [1073741824] from rfl, hs]
    generalize mulV (mulV w w 30) (serV (mulV w w 30) (-27) [2959, -213044, 8947849, -178956971]) 30 = m at *
    have hS : nb (1073741824 + m) 2001141824 := by unfold nb at *; omega
    have hm := mul30 (hx.le (show (843314857 : Int) ≤ 4294967296 by omega)) (hS.le (show (2001141824 : Int) ≤ 4294967296 by omega))
    have := Int.mul_nonneg h0 (show 0 ≤ 1073741824 + m by unfold nb at e2; omega)
    unfold nb at hm; omega
  · rw [decide_eq_false c, cond_false, decide_eq_false (show ¬ w < 0 by omega)]
    refine mmn _ ?_
    have ex : sinX w = 1686629713 - w := by unfold sinX; rw [hf, wr_i, w64_in (by omega) (by omega)]
    rw [ex]
    have hx : nb (1686629713 - w) 843314857 := by unfold nb; omega
    generalize 1686629713 - w = x at *
    obtain ⟨q0, q1⟩ := sqx_bd hx
    have hz := mul30 (hx.le (show (843314857 : Int) ≤ 4294967296 by omega)) (hx.le (show (843314857 : Int) ≤ 4294967296 by omega))
    have hk : ∀ k ∈ [-296, 26631, -1491308, 44739243, -536870912], nb k 536870912 := by unfold nb; simp
    obtain ⟨b0, b1, b2⟩ := ser_err q0 q1 hz [-296, 26631, -1491308, 44739243, -536870912] 2 2 1 (by omega) hk (by unfold nb; omega) (by unfold nb; omega)
    obtain ⟨e1, e2, e3⟩ := step q0 q1 hz b2 (show nb 1073741824 1073741824 by unfold nb; omega) b0 b1
    have hs := ser_app (mulV x x 30) 1073741824 [-296, 26631, -1491308, 44739243, -536870912] 2
    rw [e1] at hs
    show 0 ≤ serV (mulV x x 30) 2 sL2
    rw [show sL2 = [-296, 26631, -1491308, 44739243, -536870912] ++ [1073741824] from rfl, hs]
    unfold nb at e2; omega
theorem Sp_low {w : Int} (h0 : 0 ≤ w) (h1 : w ≤ 1686629713) : -(6 * MN) ≤ 1073741824 * Sp w := by
  have h := SG_err (w := w) (by unfold nb; omega)
  have n := SG_nn h0 h1
  have := Int.mul_nonneg (Int.le_of_lt MN_pos) n
  unfold nb at h
  generalize MN * SG w = X at *
  have := MN_pos
  omega
theorem Cp_low {w : Int} (h : nb w 1686629713) : -(6 * MN) ≤ 1073741824 * Cp w := by
  have e := CG_err h
  have n : 0 ≤ CG w := by
    unfold nb at h
    rcases Int.le_total 0 w with k | k
    · have := SG_nn (w := 1686629713 - w) (by omega) (by omega)
      rw [SG_co] at this; exact this
    · have := SG_nn (w := 1686629713 + w) (by omega) (by omega)
      unfold CG; exact this
  have := Int.mul_nonneg (Int.le_of_lt MN_pos) n
  unfold nb at e
  generalize MN * CG w = X at *
  have := MN_pos
  omega
theorem chk12 : leB (1073741824 * lip sinL 1700000000) (3 * MN) = true := by kernel_rfl
theorem nn_prod {M a b : Int} (hM : 0 < M) (ha : -(6 * M) ≤ 1073741824 * a) (ha1 : 1073741824 * a ≤ 1073741900 * M) (hb : -(6 * M) ≤ 1073741824 * b) (hb1 : 1073741824 * b ≤ 1073741900 * M) : -(7 * (M * M)) ≤ 1073741824 * (a * b) := by
  have hMM : 0 ≤ M * M := Int.mul_nonneg (by omega) (by omega)
  have h1 := Int.mul_nonneg (show 0 ≤ 1073741824 * a + 6 * M by omega) (show 0 ≤ 1073741824 * b + 6 * M by omega)
  have e1 : (1073741824 * a + 6 * M) * (1073741824 * b + 6 * M) = 1152921504606846976 * (a * b) + 6442450944 * (M * a) + 6442450944 * (M * b) + 36 * (M * M) := by grind
  have h2 := Int.mul_le_mul_of_nonneg_left ha1 (show 0 ≤ M by omega)
  have h3 := Int.mul_le_mul_of_nonneg_left hb1 (show 0 ≤ M by omega)
  have e2 : M * (1073741824 * a) = 1073741824 * (M * a) := by grind
  have e3 : M * (1073741824 * b) = 1073741824 * (M * b) := by grind
  have e4 : M * (1073741900 * M) = 1073741900 * (M * M) := by grind
  -- a b is below nought for opposite signs alone
  rcases Int.le_total 0 a with k | k
  · rcases Int.le_total 0 b with l | l
    · have := Int.mul_nonneg k l; omega
    · have h4 := Int.mul_nonneg k (show 0 ≤ 1073741824 * b + 6 * M by omega)
      have e5 : a * (1073741824 * b + 6 * M) = 1073741824 * (a * b) + 6 * (M * a) := by grind
      rw [e5] at h4; rw [e2, e4] at h2
      omega
  · rcases Int.le_total 0 b with l | l
    · have h4 := Int.mul_nonneg l (show 0 ≤ 1073741824 * a + 6 * M by omega)
      have e5 : b * (1073741824 * a + 6 * M) = 1073741824 * (a * b) + 6 * (M * b) := by grind
      rw [e5] at h4; rw [e3, e4] at h3
      omega
    · have := Int.mul_nonneg_of_nonpos_of_nonpos k l; omega
theorem up_bd {M s : Int} (hM : 0 < M) (h : nb (2199023255552 * s) (2199023255553 * M)) : 1073741824 * s ≤ 1073741900 * M := by unfold nb at h; omega
/-- The sine rises. -/
theorem rise {a b : Int} (h0 : -1686629713 ≤ a) (h1 : b ≤ 1686629713) (hab : a ≤ b) : SG a ≤ SG b + 64 := by
  have hM := MN_pos
  have hm : ∃ m h : Int, m + h = b ∧ (m - h = a ∨ m - h = a - 1) ∧ 0 ≤ h ∧ h ≤ 1686629713 ∧ -1686629713 ≤ m ∧ m ≤ 1686629713 := ⟨(a + b) / 2, b - (a + b) / 2, by omega, by omega, by omega, by omega, by omega, by omega⟩
  obtain ⟨m, h, e1, e2, g0, g1, g2, g3⟩ := hm
  have mn : nb m 1700000000 := by unfold nb; omega
  have hn : nb h 1700000000 := by unfold nb; omega
  have s1 := add_s mn hn
  have s2 := add_s mn hn.neg
  rw [Cp_neg, Sp_neg, e1] at *
  have p := nn_prod hM (Cp_low (w := m) (by unfold nb; omega)) (up_bd hM (Cp_one mn)) (Sp_low g0 g1) (up_bd hM (Sp_one hn))
  have ea := SG_err (w := a) (by unfold nb; omega)
  have eb := SG_err (w := b) (by unfold nb; omega)
  have hl : nb (1073741824 * (Sp (m + -h) - Sp a)) (3 * MN) := by
    have l := nb.of (pv_lip (x := m + -h) (y := a) (R := 1700000000) (d := 1) (by omega) (by omega) (by omega) sinL)
    have c := leB_le chk12
    change nb (Sp (m + -h) - Sp a) (1 * lip sinL 1700000000) at l
    generalize Sp (m + -h) - Sp a = D at *
    generalize lip sinL 1700000000 = L at *
    unfold nb at *
    omega
  -- the reference's sines
  have key : -(20 * MN) ≤ 1073741824 * (Sp b - Sp (m + -h)) := by
    have e : MN * (Sp b - Sp (m + -h)) = 2 * (Cp m * Sp h) - (Sp m * Cp h + Cp m * Sp h - MN * Sp b) + (Sp m * Cp h + Cp m * -Sp h - MN * Sp (m + -h)) := by grind
    refine Int.le_of_mul_le_mul_left ?_ hM
    have e3 : MN * -(20 * MN) = -(20 * (MN * MN)) := by grind
    have e4 : MN * (1073741824 * (Sp b - Sp (m + -h))) = 1073741824 * (MN * (Sp b - Sp (m + -h))) := by grind
    rw [e3, e4, e]
    have hMM : 0 ≤ MN * MN := Int.mul_nonneg (by omega) (by omega)
    unfold nb at s1 s2
    generalize Sp m * Cp h + Cp m * Sp h - MN * Sp b = A at *
    generalize Sp m * Cp h + Cp m * -Sp h - MN * Sp (m + -h) = B at *
    generalize Cp m * Sp h = P at *
    generalize MN * MN = MM at *
    omega
  rcases Int.lt_or_le (SG b + 64) (SG a) with g | g
  · exfalso
    have := Int.mul_le_mul_of_nonneg_left (show SG b + 65 ≤ SG a by omega) (show 0 ≤ MN by omega)
    rw [show MN * (SG b + 65) = MN * SG b + 65 * MN by grind] at this
    unfold nb at *
    generalize MN * SG a = X at *
    generalize MN * SG b = Y at *
    generalize Sp (m + -h) = sm at *
    generalize Sp a = sa at *
    generalize Sp b = sb at *
    generalize MN = M at *
    omega
  · exact g
theorem fall {a b : Int} (h0 : 0 ≤ a) (h1 : b ≤ 1686629713) (hab : a ≤ b) : CG b ≤ CG a + 64 := by
  have := rise (a := 1686629713 - b) (b := 1686629713 - a) (by omega) (by omega) (by omega)
  rw [SG_co, SG_co] at this
  exact this
/-- A sum of two products. -/
theorem dot2 {x0 x1 y0 y1 : Int} (a0 : nb x0 4294967296) (a1 : nb x1 4294967296) (b0 : nb y0 4294967296) (b1 : nb y1 4294967296) :
    nb (2 * (dotV 30 [x0, x1] [y0, y1] * 1073741824 - (x0 * y0 + x1 * y1))) 1073741824 ∧ dotH 30 [x0, x1] [y0, y1] = false := by
  have m0 := a0.mul b0
  have m1 := a1.mul b1
  unfold nb at a0 a1 b0 b1 m0 m1
  have e : dotS [x0, x1] [y0, y1] = x0 * y0 + x1 * y1 := by
    simp only [dotS]
    rw [sat_in (a := x0) (by omega) (by omega), sat_in (a := x1) (by omega) (by omega), sat_in (a := y0) (by omega) (by omega), sat_in (a := y1) (by omega) (by omega)]
    omega
  have f : dotFl [x0, x1] [y0, y1] = false := by
    simp only [dotFl]
    rw [satH_in (a := x0) (by omega) (by omega), satH_in (a := x1) (by omega) (by omega), satH_in (a := y0) (by omega) (by omega), satH_in (a := y1) (by omega) (by omega)]
    rfl
  have hb := rnd_bd (x0 * y0 + x1 * y1) 30
  rw [show pow2 30 = 1073741824 from rfl] at hb
  have g : rndS (x0 * y0 + x1 * y1) 30 = rndV (x0 * y0 + x1 * y1) 30 ∧ rndH (x0 * y0 + x1 * y1) 30 = false := by
    unfold rndS rndH
    rw [if_neg (by decide), if_neg (by decide), show Int.toNat 30 = 30 from rfl, sat_in (by omega) (by omega), satH_in (by omega) (by omega)]
    exact ⟨rfl, by decide⟩
  constructor
  · show nb (2 * (rndS (dotS [x0, x1] [y0, y1]) 30 * 1073741824 - (x0 * y0 + x1 * y1))) 1073741824
    rw [e, g.1]; exact hb
  · show (dotFl [x0, x1] [y0, y1] || rndH (dotS [x0, x1] [y0, y1]) 30) = false
    rw [e, f, g.2]; rfl
theorem sums_s (a b : Int) : nb (dotV 30 [SG a, CG a] [CG b, SG b] - SG (a + b)) 29 := by
  obtain ⟨d, -⟩ := dot2 ((SG_bd a).le (show (1073741824 : Int) ≤ 4294967296 by omega)) ((CG_bd a).le (show (1073741824 : Int) ≤ 4294967296 by omega)) ((CG_bd b).le (show (1073741824 : Int) ≤ 4294967296 by omega)) ((SG_bd b).le (show (1073741824 : Int) ≤ 4294967296 by omega))
  have h := (sum_all a b).2
  unfold nb at *; omega
theorem sums_c (a b : Int) : nb (dotV 30 [CG a, -SG a] [CG b, SG b] - CG (a + b)) 29 := by
  obtain ⟨d, -⟩ := dot2 ((CG_bd a).le (show (1073741824 : Int) ≤ 4294967296 by omega)) ((SG_bd a).neg.le (show (1073741824 : Int) ≤ 4294967296 by omega)) ((CG_bd b).le (show (1073741824 : Int) ≤ 4294967296 by omega)) ((SG_bd b).le (show (1073741824 : Int) ≤ 4294967296 by omega))
  have h := (sum_all a b).1
  rw [Int.neg_mul] at d
  unfold nb at *; omega
theorem circle (a : Int) : nb (dotV 30 [SG a, CG a] [SG a, CG a] - 1073741824) 29 ∧ dotH 30 [SG a, CG a] [SG a, CG a] = false := by
  obtain ⟨d, f⟩ := dot2 ((SG_bd a).le (show (1073741824 : Int) ≤ 4294967296 by omega)) ((CG_bd a).le (show (1073741824 : Int) ≤ 4294967296 by omega)) ((SG_bd a).le (show (1073741824 : Int) ≤ 4294967296 by omega)) ((CG_bd a).le (show (1073741824 : Int) ≤ 4294967296 by omega))
  have h := on_circle a
  refine ⟨?_, f⟩
  unfold nb at *; omega
/-- Beyond a quarter the cosine is not above nought. -/
theorem CG_np {w : Int} (h0 : 1686629713 < w ∨ w < -1686629713) (h : nb w 3373259426) : CG w ≤ 0 := by
  have key : ∀ v : Int, 1686629713 < v → v ≤ 3373259426 → CG v ≤ 0 := by
    intro v v0 v1
    have e := CG_half v
    have n := SG_nn (w := 1686629713 - (3373259426 - v)) (by omega) (by omega)
    rw [SG_co] at n
    omega
  unfold nb at h
  rcases h0 with h0 | h0
  · exact key w h0 (by omega)
  · have := key (-w) (by omega) (by omega)
    rwa [CG_neg] at this
/-- An angle whose sine is small, and whose cosine is above nought, is small. -/
theorem ang_small {w w0 K : Int} (h : nb w 3373259426) (hc : 0 < CG w) (hs : nb (SG w) K) (e : SG w0 = w0) (h0 : 0 ≤ w0) (h1 : w0 ≤ 1686629713) (hK : K + 64 < w0) : nb w w0 := by
  have hq : nb w 1686629713 := by
    rcases Int.lt_or_le 1686629713 w with k | k
    · have := CG_np (.inl k) h; omega
    · rcases Int.lt_or_le w (-1686629713) with l | l
      · have := CG_np (.inr l) h; omega
      · exact ⟨l, k⟩
  unfold nb at hq hs
  constructor
  · rcases Int.lt_or_le w (-w0) with k | k
    · exfalso
      have := rise (a := w0) (b := -w) (by omega) (by omega) (by omega)
      rw [SG_neg, e] at this
      omega
    · exact k
  · rcases Int.lt_or_le w0 w with k | k
    · exfalso
      have := rise (a := w0) (b := w) (by omega) (by omega) (by omega)
      rw [e] at this
      omega
    · exact k
theorem big_side {s k : Int} (h : 1000000000000000000 ≤ k * k + s * s) (hs : nb s 1073741824) (hk : nb k 1073741824) : 700000000 ≤ mxB s k ∧ mxB s k ≤ 1073741824 := by
  have hu : nb s (mxB s k) ∧ nb k (mxB s k) := by
    unfold mxB absV nb; (repeat' split) <;> omega
  have h1 : mxB s k ≤ 1073741824 := by unfold nb at hs hk; unfold mxB absV; (repeat' split) <;> omega
  refine ⟨?_, h1⟩
  generalize mxB s k = u at *
  obtain ⟨a, b⟩ := hu
  have a2 := (a.mul a).2
  have b2 := (b.mul b).2
  rcases Int.lt_or_le u 700000000 with g | g
  · exfalso
    have u0 : 0 ≤ u := by unfold nb at a; omega
    have : u * u ≤ 699999999 * 699999999 := Int.mul_le_mul (by omega) (by omega) u0 (by omega)
    omega
  · exact g
theorem CG_wrap (a : Int) : CG (wrapV a) = CG a := by
  obtain ⟨b0, b1, k, hk⟩ := wrap_spec a
  unfold CG
  rw [← SG_per (1686629713 + wrapV a) k]
  congr 1; omega
/-- Where a point near the circle at the angle a lies: at a. -/
theorem back_ang {a y x E K w0 : Int} (ey : nb (y - SG a) E) (ex : nb (x - CG a) E) (hE0 : 0 ≤ E) (hE : E ≤ 1000000) (hK : 111 + 2 * E ≤ K) (e : SG w0 = w0) (h0 : 0 ≤ w0) (h1 : w0 ≤ 1686629713) (hw : K + 64 < w0) :
    nb (wrapV (atanV y x - a)) w0 := by
  have sa := SG_bd a
  have ca := CG_bd a
  have oc := on_circle a
  obtain ⟨u0, u1⟩ := big_side (s := SG a) (k := CG a) (by unfold nb at oc; omega) sa ca
  have hy : nb y 1074741824 := by unfold nb at *; omega
  have hx : nb x 1074741824 := by unfold nb at *; omega
  have v0 : 699000000 ≤ mxB y x ∧ mxB y x ≤ 1074741824 := by
    unfold nb at *
    unfold mxB absV at *
    (repeat' split at u0) <;> (repeat' split) <;> omega
  have hne : y ≠ 0 ∨ x ≠ 0 := by
    rcases Int.lt_trichotomy y 0 with k | k | k
    · exact .inl (by omega)
    · rcases Int.lt_trichotomy x 0 with l | l | l
      · exact .inr (by omega)
      · exfalso; rw [k, l] at v0; have : mxB 0 0 = 0 := by decide
        omega
      · exact .inr (by omega)
    · exact .inl (by omega)
  obtain ⟨d1, d2⟩ := atan_dir (hy.le (by omega)) (hx.le (by omega)) hne
  obtain ⟨f1, f2⟩ := dif_all a (atanV y x)
  have w1 : wrapV (atanV y x - a) = wrapV (atanV y x - a) := rfl
  obtain ⟨b0, b1, -⟩ := wrap_spec (atanV y x - a)
  have es : SG (wrapV (atanV y x - a)) = -SG (a - atanV y x) := by rw [SG_wrap, ← SG_neg]; congr 1; omega
  have ec : CG (wrapV (atanV y x - a)) = CG (a - atanV y x) := by rw [CG_wrap, ← CG_neg]; congr 1; omega
  generalize wrapV (atanV y x - a) = w at *
  generalize atanV y x = r at *
  have sr := SG_bd r
  have cr := CG_bd r
  have p1 := ey.mul cr
  have p2 := ex.mul sr
  have p3 := ex.mul cr
  have p4 := ey.mul sr
  have g1 : SG a * CG r - CG a * SG r = (y * CG r - x * SG r) - (y - SG a) * CG r + (x - CG a) * SG r := by grind
  have g2 : CG a * CG r + SG a * SG r = (x * CG r + y * SG r) - (x - CG a) * CG r - (y - SG a) * SG r := by grind
  rw [g1] at f2
  rw [g2] at f1
  refine ang_small (K := K) (w0 := w0) (by unfold nb; omega) ?_ ?_ e h0 h1 hw
  · rw [ec]
    unfold nb at f1 p3 p4
    generalize (x - CG a) * CG r = A at *
    generalize (y - SG a) * SG r = B at *
    generalize x * CG r + y * SG r = D at *
    omega
  · rw [es]
    refine nb.neg ?_
    unfold nb at f2 p1 p2 d1 ⊢
    generalize (y - SG a) * CG r = A at *
    generalize (x - CG a) * SG r = B at *
    generalize y * CG r - x * SG r = D at *
    omega

/-- The angle of a sine. -/
theorem atan_pos {y x : Int} (hy : nb y 576460752303423488) (hx : nb x 576460752303423488) (y0 : 0 < y) (x0 : 0 < x) (hd : mxB y x ≤ 2000000000) : 0 < atanV y x := by
  obtain ⟨b0, b1, b2, b3⟩ := mB_bd hy hx (.inl (by omega))
  obtain ⟨q1, q2, q3⟩ := divq' b0 b1 b2 (by omega)
  obtain ⟨-, c0, c1, c2, -⟩ := core_dir q2 q3
  have hb := quo_bd (a := mnB y x * 1073741824) (b := mxB y x) (by omega) (by omega)
  have hm : 1 ≤ mnB y x := by unfold mnB absV; (repeat' split) <;> omega
  have hq : 0 < quoR (mnB y x * 1073741824) (mxB y x) := by
    rcases Int.lt_or_le 0 (quoR (mnB y x * 1073741824) (mxB y x)) with g | g
    · exact g
    · exfalso
      have e0 : quoR (mnB y x * 1073741824) (mxB y x) = 0 := by omega
      rw [e0] at hb
      omega
  rw [atanV_eq hy hx (.inl (by omega))]
  have := c2 hq
  unfold angB
  rw [if_neg (by omega), if_neg (by omega)]
  split <;> omega
theorem atan_odd {y x : Int} (hy : nb y 576460752303423488) (hx : nb x 576460752303423488) (y0 : y < 0) : atanV y x = -atanV (-y) x := by
  rw [atanV_eq hy hx (.inl (by omega)), atanV_eq hy.neg hx (.inl (by omega))]
  have e1 : mnB (-y) x = mnB y x ∧ mxB (-y) x = mxB y x ∧ absV (-y) = absV y := by
    refine ⟨?_, ?_, absV_negate y⟩
    · unfold mnB; rw [absV_negate]
    · unfold mxB; rw [absV_negate]
  rw [e1.1, e1.2.1]
  unfold angB
  rw [e1.2.2, if_pos y0, if_neg (show ¬ -y < 0 by omega)]
theorem sqnn0 (a : Int) : 0 ≤ a * a := by
  rcases Int.le_total 0 a with k | k
  · exact Int.mul_nonneg k k
  · exact Int.mul_nonneg_of_nonpos_of_nonpos k k
theorem absSq9 (a : Int) : absV a * absV a = a * a := by rw [← absV_mul, absV_pos (sqnn0 a)]
theorem sq_bound {D A : Int} (h0 : 0 ≤ D) (hA : 0 ≤ A) (h : D * D ≤ A * A) : D ≤ A := by
  rcases Int.lt_or_le A D with g | g
  · exfalso
    have : (A + 1) * (A + 1) ≤ D * D := Int.mul_le_mul (by omega) (by omega) (by omega) h0
    have e : (A + 1) * (A + 1) = A * A + 2 * A + 1 := by grind
    omega
  · exact g
/-- A point on the circle whose angle is known. -/
theorem on_arc {a X C S : Int} (hP : nb (a * a + X * X - 1152921504606846976) 2147483648) (hR : nb (C * C + S * S - 1152921504606846976) 30064771072) (hE : nb (a * C - X * S) 88046829568) (hD : 0 ≤ X * C + a * S) (ha : nb a 1073741824) (hX : nb X 1073741826) (hS : nb S 1073741824) : nb (S - a) 200 := by
  have e1 : (X * C + a * S) * (X * C + a * S) = (a * a + X * X) * (C * C + S * S) - (a * C - X * S) * (a * C - X * S) := by grind
  have e2 : 1152921504606846976 * (S - a) = a * (X * C + a * S - 1152921504606846976) - X * (a * C - X * S) - S * (a * a + X * X - 1152921504606846976) := by grind
  have q1 := hP.mul hR
  have q2 := (hE.mul hE)
  have q0 : 0 ≤ (a * C - X * S) * (a * C - X * S) := by
    rcases Int.le_total 0 (a * C - X * S) with k | k
    · exact Int.mul_nonneg k k
    · exact Int.mul_nonneg_of_nonpos_of_nonpos k k
  have x1 := hX.mul hE
  have x2 := hS.mul hP
  have e3 : (a * a + X * X) * (C * C + S * S) = (a * a + X * X - 1152921504606846976) * (C * C + S * S - 1152921504606846976) + 1152921504606846976 * (a * a + X * X - 1152921504606846976) + 1152921504606846976 * (C * C + S * S - 1152921504606846976) + 1152921504606846976 * 1152921504606846976 := by grind
  generalize a * a + X * X - 1152921504606846976 = P at *
  generalize C * C + S * S - 1152921504606846976 = R at *
  have hd : nb (X * C + a * S - 1152921504606846976) 40802189312 := by
    generalize (a * C - X * S) * (a * C - X * S) = EE at *
    generalize (a * a + X * X) * (C * C + S * S) = PR at *
    generalize P * R = pr at *
    generalize X * C + a * S = D at *
    unfold nb at *
    constructor
    · rcases Int.lt_or_le D (1152921504606846976 - 40802189312) with g | g
      · exfalso
        have : D * D ≤ (1152921504606846976 - 40802189312) * (1152921504606846976 - 40802189312) := Int.mul_le_mul (by omega) (by omega) hD (by omega)
        omega
      · omega
    · rcases Int.lt_or_le (1152921504606846976 + 40802189312) D with g | g
      · exfalso
        have : (1152921504606846976 + 40802189312) * (1152921504606846976 + 40802189312) ≤ D * D := Int.mul_le_mul (by omega) (by omega) (by omega) (by omega)
        omega
      · omega
  have x3 := ha.mul hd
  generalize a * (X * C + a * S - 1152921504606846976) = A at *
  generalize X * (a * C - X * S) = B at *
  generalize S * P = Z at *
  unfold nb at *
  omega
/-- The other side of a sine. -/
def arcX (a : Int) : Int := sqrtV (1073741824 - mulV a a 30)
theorem arcX_ok {a : Int} (ha : nb a 1063004382) : nb (a * a + arcX a * arcX a - 1152921504606846976) 2147483648 ∧ 100000000 ≤ arcX a ∧ arcX a ≤ 1073741825 ∧ sqrtH (1073741824 - mulV a a 30) = false ∧ nb (2 * (mulV a a 30 * 1073741824 - a * a)) 1073741824 ∧ 0 ≤ mulV a a 30 ∧ mulV a a 30 ≤ 1073741824 := by
  have hm := mul30 (ha.le (show (1063004382 : Int) ≤ 4294967296 by omega)) (ha.le (show (1063004382 : Int) ≤ 4294967296 by omega))
  have h2 := (ha.mul ha).2
  have q0 : 0 ≤ a * a := by
    rcases Int.le_total 0 a with k | k
    · exact Int.mul_nonneg k k
    · exact Int.mul_nonneg_of_nonpos_of_nonpos k k
  unfold arcX
  generalize mulV a a 30 = m at *
  have m0 : 0 ≤ m ∧ m ≤ 1052375000 := by unfold nb at hm; omega
  have es : satV (1073741824 - m) = 1073741824 - m := sat_in (by omega) (by omega)
  obtain ⟨r0, r1, r2⟩ := rootW_spec (N := (1073741824 - m) * 1073741824) (by omega) (by omega)
  have hr1 : rootW ((1073741824 - m) * 1073741824) ≤ 1073741825 := root_le (by omega) (by omega) (by omega) (by omega)
  have hr0 : 100000000 ≤ rootW ((1073741824 - m) * 1073741824) := root_ge (by omega) (by omega) (.inr (by omega))
  have ev : sqrtV (1073741824 - m) = rootW ((1073741824 - m) * 1073741824) := by
    unfold sqrtV
    rw [es, if_neg (by omega), sat_in (by omega) (by omega)]
  have ef : sqrtH (1073741824 - m) = false := by
    unfold sqrtH
    rw [es, satH_in (by omega) (by omega), satH_in (a := rootW ((1073741824 - m) * 1073741824)) (by omega) (by omega), decide_eq_false (by omega)]
    rfl
  rw [ev]
  generalize rootW ((1073741824 - m) * 1073741824) = X at *
  refine ⟨?_, hr0, hr1, ef, hm, by omega, by omega⟩
  unfold nb at *
  generalize X * X = XX at *
  generalize a * a = aa at *
  omega
theorem arcs {a : Int} (ha : nb a 1063004382) : nb (SG (atanV a (arcX a)) - a) 200 ∧ (0 < a → 0 < atanV a (arcX a)) ∧ (a = 0 → atanV a (arcX a) = 0) ∧ (a < 0 → atanV a (arcX a) < 0) ∧ nb (atanV a (arcX a)) 3373259426 := by
  obtain ⟨p, x0, x1, -, -, -, -⟩ := arcX_ok ha
  generalize arcX a = X at *
  have an : nb a 576460752303423488 := ha.le (by omega)
  have xn : nb X 576460752303423488 := by unfold nb; omega
  obtain ⟨d1, d2⟩ := atan_dir an xn (.inr (by omega))
  obtain ⟨s1, s2, s3, s4, s5⟩ := atan_sg an xn (.inr (by omega))
  have hu : 0 ≤ mxB a X ∧ mxB a X ≤ 1073741825 := by unfold nb at ha; unfold mxB absV; (repeat' split) <;> omega
  refine ⟨?_, ?_, ?_, ?_, s1⟩
  · have oc := on_circle (atanV a X)
    exact on_arc p oc (d1.le (by omega)) (by omega) (ha.le (by omega)) (by unfold nb; omega) (SG_bd _)
  · intro h
    exact atan_pos an xn h (by omega) (by omega)
  · intro h
    have := s2 (by omega); have := s3 (by omega) (by omega); omega
  · intro h
    rw [atan_odd an xn h]
    have : 0 < atanV (-a) X := by
      refine atan_pos an.neg xn (by omega) (by omega) ?_
      unfold nb at ha; unfold mxB absV; (repeat' split) <;> omega
    omega
end Go.Proofs.Ytaebmggjhjobnaa

/- Quaternions in both answers: their runs, against what they compute. -/
namespace Go.Proofs.Ytaebmggjhjobnaa
open Go.Lr
set_option linter.unusedVariables false
set_option linter.unusedSimpArgs false

def qsameT (a0 a1 a2 a3 b0 b1 b2 b3 : Int) : Option (LV × List (Bool × Bool)) := 
  bif (a0 == wr IntKind.i64 (0 - b0)) then 
    bif (a0 != -9223372036854775808) then 
      bif (a1 == wr IntKind.i64 (0 - b1)) then 
        bif (a1 != -9223372036854775808) then 
          bif (a2 == wr IntKind.i64 (0 - b2)) then 
            bif (a2 != -9223372036854775808) then 
              bif (a3 == wr IntKind.i64 (0 - b3)) then 
                bif (a0 == b0 && (a1 == b1 && (a2 == b2 && (a3 == b3 && true)))) then some (LV.v (V1.one (At.bool true)), [])
                else some (LV.v (V1.one (At.bool (a3 != -9223372036854775808))), [])
              else 
                bif (a0 == b0 && (a1 == b1 && (a2 == b2 && (a3 == b3 && true)))) then some (LV.v (V1.one (At.bool true)), [])
                else some (LV.v (V1.one (At.bool false)), [])
            else 
              bif (a0 == b0 && (a1 == b1 && (a2 == b2 && (a3 == b3 && true)))) then some (LV.v (V1.one (At.bool true)), [])
              else some (LV.v (V1.one (At.bool false)), [])
          else 
            bif (a0 == b0 && (a1 == b1 && (a2 == b2 && (a3 == b3 && true)))) then some (LV.v (V1.one (At.bool true)), [])
            else some (LV.v (V1.one (At.bool false)), [])
        else 
          bif (a0 == b0 && (a1 == b1 && (a2 == b2 && (a3 == b3 && true)))) then some (LV.v (V1.one (At.bool true)), [])
          else some (LV.v (V1.one (At.bool false)), [])
      else 
        bif (a0 == b0 && (a1 == b1 && (a2 == b2 && (a3 == b3 && true)))) then some (LV.v (V1.one (At.bool true)), [])
        else some (LV.v (V1.one (At.bool false)), [])
    else 
      bif (a0 == b0 && (a1 == b1 && (a2 == b2 && (a3 == b3 && true)))) then some (LV.v (V1.one (At.bool true)), [])
      else some (LV.v (V1.one (At.bool false)), [])
  else 
    bif (a0 == b0 && (a1 == b1 && (a2 == b2 && (a3 == b3 && true)))) then some (LV.v (V1.one (At.bool true)), [])
    else some (LV.v (V1.one (At.bool false)), [])
def qsameF : List LV → Option (LV × List (Bool × Bool))
  | [.v (.agg [.int .i64 a0, .int .i64 a1, .int .i64 a2, .int .i64 a3]), .v (.agg [.int .i64 b0, .int .i64 b1, .int .i64 b2, .int .i64 b3])] => qsameT a0 a1 a2 a3 b0 b1 b2 b3
  | _ => none
/-- Are they the same rotation? -/
def sameB (a0 a1 a2 a3 b0 b1 b2 b3 : Int) : Bool :=
  (a0 == b0 && (a1 == b1 && (a2 == b2 && (a3 == b3 && true)))) || (a0 == wr IntKind.i64 (0 - b0) && (a0 != -9223372036854775808 && (a1 == wr IntKind.i64 (0 - b1) && (a1 != -9223372036854775808 && (a2 == wr IntKind.i64 (0 - b2) && (a2 != -9223372036854775808 && (a3 == wr IntKind.i64 (0 - b3) && a3 != -9223372036854775808)))))))
def sameS : List LV → Option (LV × List (Bool × Bool))
  | [.v (.agg [.int .i64 a0, .int .i64 a1, .int .i64 a2, .int .i64 a3]), .v (.agg [.int .i64 b0, .int .i64 b1, .int .i64 b2, .int .i64 b3])] => some (.v (.one (.bool (sameB a0 a1 a2 a3 b0 b1 b2 b3))), [])
  | _ => none
theorem same_eq (a0 a1 a2 a3 b0 b1 b2 b3 : Int) : qsameT a0 a1 a2 a3 b0 b1 b2 b3 = some (.v (.one (.bool (sameB a0 a1 a2 a3 b0 b1 b2 b3))), []) := by
  unfold qsameT sameB
  generalize (a0 == b0 && (a1 == b1 && (a2 == b2 && (a3 == b3 && true)))) = e
  generalize (a0 == wr IntKind.i64 (0 - b0)) = p0
  generalize (a0 != -9223372036854775808) = q0
  generalize (a1 == wr IntKind.i64 (0 - b1)) = p1
  generalize (a1 != -9223372036854775808) = q1
  generalize (a2 == wr IntKind.i64 (0 - b2)) = p2
  generalize (a2 != -9223372036854775808) = q2
  generalize (a3 == wr IntKind.i64 (0 - b3)) = p3
  generalize (a3 != -9223372036854775808) = q3
  cases p0 <;> cases q0 <;> cases p1 <;> cases q1 <;> cases p2 <;> cases q2 <;> cases p3 <;> cases e <;> simp
/-- Made one of length One, twice. -/
def uE (x a0 a1 a2 a3 : Int) : Int := divPV (divPV x (hypV [a0, a1, a2, a3]) 30) (hypV [divPV a0 (hypV [a0, a1, a2, a3]) 30, divPV a1 (hypV [a0, a1, a2, a3]) 30, divPV a2 (hypV [a0, a1, a2, a3]) 30, divPV a3 (hypV [a0, a1, a2, a3]) 30]) 30
def uM (a0 a1 a2 a3 : Int) : Int := hypV [divPV a0 (hypV [a0, a1, a2, a3]) 30, divPV a1 (hypV [a0, a1, a2, a3]) 30, divPV a2 (hypV [a0, a1, a2, a3]) 30, divPV a3 (hypV [a0, a1, a2, a3]) 30]
def uH (h : Bool) (a0 a1 a2 a3 : Int) : Bool := h || hypH [a0, a1, a2, a3] || divPH a0 (hypV [a0, a1, a2, a3]) 30 || divPH a1 (hypV [a0, a1, a2, a3]) 30 || divPH a2 (hypV [a0, a1, a2, a3]) 30 || divPH a3 (hypV [a0, a1, a2, a3]) 30 || hypH [divPV a0 (hypV [a0, a1, a2, a3]) 30, divPV a1 (hypV [a0, a1, a2, a3]) 30, divPV a2 (hypV [a0, a1, a2, a3]) 30, divPV a3 (hypV [a0, a1, a2, a3]) 30] || divPH (divPV a0 (hypV [a0, a1, a2, a3]) 30) (uM a0 a1 a2 a3) 30 || divPH (divPV a1 (hypV [a0, a1, a2, a3]) 30) (uM a0 a1 a2 a3) 30 || divPH (divPV a2 (hypV [a0, a1, a2, a3]) 30) (uM a0 a1 a2 a3) 30 || divPH (divPV a3 (hypV [a0, a1, a2, a3]) 30) (uM a0 a1 a2 a3) 30
def uZ (a0 a1 a2 a3 : Int) : Bool := satV a0 == 0 && (satV a1 == 0 && (satV a2 == 0 && (satV a3 == 0 && true)))
def uS (h : Bool) (a0 a1 a2 a3 : Int) : Bool := h || satH a0 || satH a1 || satH a2 || satH a3
def unitS : List LV → Bool → Option (LV × Bool × List (Bool × Bool))
  | [.v (.agg [.int .i64 a0, .int .i64 a1, .int .i64 a2, .int .i64 a3])], hb => some (.v (.agg [.int .i64 (bif uZ a0 a1 a2 a3 then 1073741824 else uE (satV a0) (satV a0) (satV a1) (satV a2) (satV a3)), .int .i64 (bif uZ a0 a1 a2 a3 then 0 else uE (satV a1) (satV a0) (satV a1) (satV a2) (satV a3)), .int .i64 (bif uZ a0 a1 a2 a3 then 0 else uE (satV a2) (satV a0) (satV a1) (satV a2) (satV a3)), .int .i64 (bif uZ a0 a1 a2 a3 then 0 else uE (satV a3) (satV a0) (satV a1) (satV a2) (satV a3))]),
    (bif uZ a0 a1 a2 a3 then uS hb a0 a1 a2 a3 else uH (uS hb a0 a1 a2 a3) (satV a0) (satV a1) (satV a2) (satV a3)), [])
  | _, _ => none
def mulQ (a0 a1 a2 a3 b0 b1 b2 b3 : Int) : LV := .v (.agg [.int .i64 (dotV 30 [satV a0, satV a1, satV a2, satV a3] [satV b0, wr IntKind.i64 (0 - satV b1), wr IntKind.i64 (0 - satV b2), wr IntKind.i64 (0 - satV b3)]), .int .i64 (dotV 30 [satV a0, satV a1, satV a2, satV a3] [satV b1, satV b0, satV b3, wr IntKind.i64 (0 - satV b2)]), .int .i64 (dotV 30 [satV a0, satV a1, satV a2, satV a3] [satV b2, wr IntKind.i64 (0 - satV b3), satV b0, satV b1]), .int .i64 (dotV 30 [satV a0, satV a1, satV a2, satV a3] [satV b3, satV b2, wr IntKind.i64 (0 - satV b1), satV b0])])
def mulQH (h : Bool) (a0 a1 a2 a3 b0 b1 b2 b3 : Int) : Bool := h || satH a0 || satH a1 || satH a2 || satH a3 || satH b0 || satH b1 || satH b2 || satH b3 || dotH 30 [satV a0, satV a1, satV a2, satV a3] [satV b0, wr IntKind.i64 (0 - satV b1), wr IntKind.i64 (0 - satV b2), wr IntKind.i64 (0 - satV b3)] || dotH 30 [satV a0, satV a1, satV a2, satV a3] [satV b1, satV b0, satV b3, wr IntKind.i64 (0 - satV b2)] || dotH 30 [satV a0, satV a1, satV a2, satV a3] [satV b2, wr IntKind.i64 (0 - satV b3), satV b0, satV b1] || dotH 30 [satV a0, satV a1, satV a2, satV a3] [satV b3, satV b2, wr IntKind.i64 (0 - satV b1), satV b0]
def mulQS : List LV → Bool → Option (LV × Bool × List (Bool × Bool))
  | [.v (.agg [.int .i64 a0, .int .i64 a1, .int .i64 a2, .int .i64 a3]), .v (.agg [.int .i64 b0, .int .i64 b1, .int .i64 b2, .int .i64 b3])], hb => some (mulQ a0 a1 a2 a3 b0 b1 b2 b3, mulQH hb a0 a1 a2 a3 b0 b1 b2 b3, [])
  | _, _ => none
theorem puZ (a0 a1 a2 a3 : Int) (hb : Bool) : (runF Try.prog S34 Zl 2000 41 [A0, .v (.agg [.int .i64 a0, .int .i64 a1, .int .i64 a2, .int .i64 a3])] [(0, flag 25 hb)] 1 [some true]).map acc3 = some (.v (.agg [.int .i64 1073741824, .int .i64 0, .int .i64 0, .int .i64 0]), some (flag 25 (uS hb a0 a1 a2 a3)), [(uZ a0 a1 a2 a3, true)]) := by kernel_rfl
theorem puN (a0 a1 a2 a3 : Int) (hb : Bool) : (runF Try.prog S34 Zl 2000 41 [A0, .v (.agg [.int .i64 a0, .int .i64 a1, .int .i64 a2, .int .i64 a3])] [(0, flag 25 hb)] 1 [some false, none, none, none, none, none, none, none, none, none, none, none, none, none, none, none]).map acc3 = some (.v (.agg [.int .i64 (uE (satV a0) (satV a0) (satV a1) (satV a2) (satV a3)), .int .i64 (uE (satV a1) (satV a0) (satV a1) (satV a2) (satV a3)), .int .i64 (uE (satV a2) (satV a0) (satV a1) (satV a2) (satV a3)), .int .i64 (uE (satV a3) (satV a0) (satV a1) (satV a2) (satV a3))]), some (flag 25 (uH (uS hb a0 a1 a2 a3) (satV a0) (satV a1) (satV a2) (satV a3))), [(uZ a0 a1 a2 a3, false)]) := by kernel_rfl
theorem sumpu : SumOK Try.prog 41 (accSum 25 unitS) := by
  refine accSum_run (z := Zl) sound34 (own_of sound34 Try.func41 (by kernel_rfl)) fun args hb v h' cs hF hc => ?_
  unfold unitS at hF
  split at hF
  · rename_i a0 a1 a2 a3
    cases hF
    refine ⟨rfl, ?_⟩
    rcases bool_cases (uZ a0 a1 a2 a3) with h | h
    · rw [h]; exact ⟨2000, _, _, puZ a0 a1 a2 a3 hb, ae_cons h ae_nil⟩
    · rw [h]; exact ⟨2000, _, _, puN a0 a1 a2 a3 hb, ae_cons h ae_nil⟩
  · cases hF
theorem pmR (a0 a1 a2 a3 b0 b1 b2 b3 : Int) (hb : Bool) : (runF Try.prog S34 Zl 2000 40 [A0, .v (.agg [.int .i64 a0, .int .i64 a1, .int .i64 a2, .int .i64 a3]), .v (.agg [.int .i64 b0, .int .i64 b1, .int .i64 b2, .int .i64 b3])] [(0, flag 25 hb)] 1 []).map acc3 = some (mulQ a0 a1 a2 a3 b0 b1 b2 b3, some (flag 25 (mulQH hb a0 a1 a2 a3 b0 b1 b2 b3)), []) := by kernel_rfl
theorem sumpm : SumOK Try.prog 40 (accSum 25 mulQS) := by
  refine accSum_run (z := Zl) sound34 (own_of sound34 Try.func40 (by kernel_rfl)) fun args hb v h' cs hF hc => ?_
  unfold mulQS at hF
  split at hF
  · rename_i a0 a1 a2 a3 b0 b1 b2 b3
    cases hF
    exact ⟨rfl, 2000, _, _, pmR a0 a1 a2 a3 b0 b1 b2 b3 hb, ae_nil⟩
  · cases hF
noncomputable def S41 : FuncId → Option SumK := more (more S34 41 (accSum 25 unitS)) 40 (accSum 25 mulQS)
theorem sound41 : Sound Try.prog S41 := (sound34.more sumpu).more sumpm
end Go.Proofs.Ytaebmggjhjobnaa

/- Rotations' matrices in both answers: the second answer's Of, Apply, Back in the program's words. -/
namespace Go.Proofs.Ytaebmggjhjobnaa
open Go.Lr
set_option linter.unusedVariables false
set_option linter.unusedSimpArgs false

def inS (a : Int) : Prop := -1152921504606846976 ≤ a ∧ a ≤ 1152921504606846976
theorem inS_sat (a : Int) : inS (satV a) := sat_bd a
theorem wneg {a : Int} (h : inS a) : wr IntKind.i64 (0 - a) = -a := by
  unfold inS at h
  have := w64_in (x := 0 - a) (by omega) (by omega); rw [wr_i, this]; omega
theorem inS_neg {a : Int} (h : inS a) : inS (-a) := by unfold inS at *; omega
theorem wone {a : Int} (h : inS a) : wr IntKind.i64 (1 * a) = a := by
  unfold inS at h; rw [Int.one_mul]; exact w64_in (by omega) (by omega)
theorem wmone {a : Int} (h : inS a) : wr IntKind.i64 (-1 * a) = -a := by
  unfold inS at h
  have e : -1 * a = -a := by omega
  rw [e]; exact w64_in (by omega) (by omega)
theorem dot4 {x0 x1 x2 x3 y0 y1 y2 y3 : Int} (a0 : inS x0) (a1 : inS x1) (a2 : inS x2) (a3 : inS x3) (b0 : inS y0) (b1 : inS y1) (b2 : inS y2) (b3 : inS y3) :
    dotV 30 [x0, x1, x2, x3] [y0, y1, y2, y3] = rndS (x0 * y0 + (x1 * y1 + (x2 * y2 + (x3 * y3 + 0)))) 30 ∧ dotH 30 [x0, x1, x2, x3] [y0, y1, y2, y3] = rndH (x0 * y0 + (x1 * y1 + (x2 * y2 + (x3 * y3 + 0)))) 30 := by
  have e : dotS [x0, x1, x2, x3] [y0, y1, y2, y3] = x0 * y0 + (x1 * y1 + (x2 * y2 + (x3 * y3 + 0))) := by
    simp only [dotS]
    rw [sat_in a0.1 a0.2, sat_in a1.1 a1.2, sat_in a2.1 a2.2, sat_in a3.1 a3.2, sat_in b0.1 b0.2, sat_in b1.1 b1.2, sat_in b2.1 b2.2, sat_in b3.1 b3.2]
  have f : dotFl [x0, x1, x2, x3] [y0, y1, y2, y3] = false := by
    simp only [dotFl]
    rw [satH_in a0.1 a0.2, satH_in a1.1 a1.2, satH_in a2.1 a2.2, satH_in a3.1 a3.2, satH_in b0.1 b0.2, satH_in b1.1 b1.2, satH_in b2.1 b2.2, satH_in b3.1 b3.2]
    rfl
  refine ⟨?_, ?_⟩
  · show rndS (dotS [x0, x1, x2, x3] [y0, y1, y2, y3]) 30 = _; rw [e]
  · show (dotFl [x0, x1, x2, x3] [y0, y1, y2, y3] || rndH (dotS [x0, x1, x2, x3] [y0, y1, y2, y3]) 30) = _; rw [e, f]; rfl
theorem dot4_eq {x0 x1 x2 x3 y0 y1 y2 y3 u0 u1 u2 u3 v0 v1 v2 v3 : Int} (a0 : inS x0) (a1 : inS x1) (a2 : inS x2) (a3 : inS x3) (b0 : inS y0) (b1 : inS y1) (b2 : inS y2) (b3 : inS y3)
    (c0 : inS u0) (c1 : inS u1) (c2 : inS u2) (c3 : inS u3) (d0 : inS v0) (d1 : inS v1) (d2 : inS v2) (d3 : inS v3) (h : x0 * y0 + (x1 * y1 + (x2 * y2 + (x3 * y3 + 0))) = u0 * v0 + (u1 * v1 + (u2 * v2 + (u3 * v3 + 0)))) :
    dotV 30 [x0, x1, x2, x3] [y0, y1, y2, y3] = dotV 30 [u0, u1, u2, u3] [v0, v1, v2, v3] ∧ dotH 30 [x0, x1, x2, x3] [y0, y1, y2, y3] = dotH 30 [u0, u1, u2, u3] [v0, v1, v2, v3] := by
  obtain ⟨e1, e2⟩ := dot4 a0 a1 a2 a3 b0 b1 b2 b3
  obtain ⟨f1, f2⟩ := dot4 c0 c1 c2 c3 d0 d1 d2 d3
  rw [e1, e2, f1, f2, h]; exact ⟨rfl, rfl⟩
/-- The minus on the other list. -/
theorem t1_neg {a b d e : Int} (ha : inS a) (hb : inS b) (hd : inS d) (he : inS e) :
    dotV 30 [a, a, d, d] [b, b, wr IntKind.i64 (0 - e), wr IntKind.i64 (0 - e)] = t1V a b (wr IntKind.i64 (0 - d)) e ∧ dotH 30 [a, a, d, d] [b, b, wr IntKind.i64 (0 - e), wr IntKind.i64 (0 - e)] = t1H a b (wr IntKind.i64 (0 - d)) e := by
  unfold t1V t1H
  rw [wneg hd, wneg he]
  exact dot4_eq ha ha hd hd hb hb (inS_neg he) (inS_neg he) ha ha (inS_neg hd) (inS_neg hd) hb hb he he (by rw [Int.mul_neg, Int.neg_mul])
theorem t1_swap {a b d e : Int} (ha : inS a) (hb : inS b) (hd : inS d) (he : inS e) : t1V b a d e = t1V a b d e ∧ t1H b a d e = t1H a b d e := by
  unfold t1V t1H
  exact dot4_eq hb hb hd hd ha ha he he ha ha hd hd hb hb he he (by rw [Int.mul_comm b a])
theorem s1_a {a b c d : Int} (ha : inS a) (hb : inS b) (hc : inS c) (hd : inS d) :
    dotV 30 [a, b, wr IntKind.i64 (0 - c), wr IntKind.i64 (0 - d)] [a, b, c, d] = s1V 1 1 (-1) (-1) a b c d ∧ dotH 30 [a, b, wr IntKind.i64 (0 - c), wr IntKind.i64 (0 - d)] [a, b, c, d] = s1H 1 1 (-1) (-1) a b c d := by
  unfold s1V s1H
  rw [wneg hc, wneg hd, wone ha, wone hb, wmone hc, wmone hd]
  exact dot4_eq ha hb (inS_neg hc) (inS_neg hd) ha hb hc hd ha hb hc hd ha hb (inS_neg hc) (inS_neg hd) (by simp only [Int.mul_neg, Int.neg_mul])
theorem s1_b {a b c d : Int} (ha : inS a) (hb : inS b) (hc : inS c) (hd : inS d) :
    dotV 30 [a, c, wr IntKind.i64 (0 - d), wr IntKind.i64 (0 - b)] [a, c, d, b] = s1V 1 (-1) 1 (-1) a b c d ∧ dotH 30 [a, c, wr IntKind.i64 (0 - d), wr IntKind.i64 (0 - b)] [a, c, d, b] = s1H 1 (-1) 1 (-1) a b c d := by
  unfold s1V s1H
  rw [wneg hd, wneg hb, wone ha, wone hc, wmone hb, wmone hd]
  exact dot4_eq ha hc (inS_neg hd) (inS_neg hb) ha hc hd hb ha hb hc hd ha (inS_neg hb) hc (inS_neg hd) (by simp only [Int.mul_neg, Int.neg_mul]; generalize a * a = p; generalize b * b = q; generalize c * c = r; generalize d * d = s; omega)
theorem s1_c {a b c d : Int} (ha : inS a) (hb : inS b) (hc : inS c) (hd : inS d) :
    dotV 30 [a, d, wr IntKind.i64 (0 - b), wr IntKind.i64 (0 - c)] [a, d, b, c] = s1V 1 (-1) (-1) 1 a b c d ∧ dotH 30 [a, d, wr IntKind.i64 (0 - b), wr IntKind.i64 (0 - c)] [a, d, b, c] = s1H 1 (-1) (-1) 1 a b c d := by
  unfold s1V s1H
  rw [wneg hb, wneg hc, wone ha, wone hd, wmone hb, wmone hc]
  exact dot4_eq ha hd (inS_neg hb) (inS_neg hc) ha hd hb hc ha hb hc hd ha (inS_neg hb) (inS_neg hc) hd (by simp only [Int.mul_neg, Int.neg_mul]; generalize a * a = p; generalize b * b = q; generalize c * c = r; generalize d * d = s; omega)
end Go.Proofs.Ytaebmggjhjobnaa

/- The second answer's matrix of a quaternion: its run (printed), in the program's words. -/
namespace Go.Proofs.Ytaebmggjhjobnaa
open Go.Lr
set_option linter.unusedVariables false
set_option linter.unusedSimpArgs false

end Go.Proofs.Ytaebmggjhjobnaa

/- Headings in both answers: their runs, against what they compute. -/
namespace Go.Proofs.Ytaebmggjhjobnaa
open Go.Lr
set_option linter.unusedVariables false
set_option linter.unusedSimpArgs false

noncomputable def S42 : FuncId → Option SumK := more S39 41 (accSum 25 unitS)
theorem sound42 : Sound Try.prog S42 := sound39.more sumpu

def acc3S (ty : TypeId) (r : Option (LV × Bool × List (Bool × Bool))) : Option (LV × Option Blk × List (Bool × Bool)) := r.map fun q => (q.1, some (flag ty q.2.1), q.2.2)
/-- The rotation that heads so; the heading of a rotation. -/
def fyS : List LV → Bool → Option (LV × Bool × List (Bool × Bool))
  | [.v (.one (.int .i64 a))], hb => unitS [.v (.agg [.int .i64 (cosV (mulV (wrapV a) 536870912 30)), .int .i64 0, .int .i64 0, .int .i64 (sinV (mulV (wrapV a) 536870912 30))])] (sinH (mulV (wrapV a) 536870912 30) (cosH (mulV (wrapV a) 536870912 30) (hb || mulH (wrapV a) 536870912 30)))
  | _, _ => none
def yawS : List LV → Bool → Option (LV × Bool × List (Bool × Bool))
  | [.v (.agg [.int .i64 a0, .int .i64 a1, .int .i64 a2, .int .i64 a3])], hb => match rofF [.v (.agg [.int .i64 a0, .int .i64 a1, .int .i64 a2, .int .i64 a3])] hb with
    | some (_, h, _) => some (I (atanV (t1V (satV a1) (satV a2) (satV a0) (satV a3)) (s1V 1 1 (-1) (-1) (satV a0) (satV a1) (satV a2) (satV a3))), atanH (t1V (satV a1) (satV a2) (satV a0) (satV a3)) (s1V 1 1 (-1) (-1) (satV a0) (satV a1) (satV a2) (satV a3)) h, [])
    | none => none
  | _, _ => none
theorem pfyR (a : Int) (hb : Bool) : (runF Try.prog S42 Zl 2000 32 [A0, I a] [(0, flag 25 hb)] 1 []).map acc3 = acc3S 25 (fyS [I a] hb) := by kernel_rfl
theorem pyawR (a0 a1 a2 a3 : Int) (hb : Bool) : (runF Try.prog S42 Zl 2000 31 [A0, .v (.agg [.int .i64 a0, .int .i64 a1, .int .i64 a2, .int .i64 a3])] [(0, flag 25 hb)] 1 []).map acc3 = acc3S 25 (yawS [.v (.agg [.int .i64 a0, .int .i64 a1, .int .i64 a2, .int .i64 a3])] hb) := by kernel_rfl
end Go.Proofs.Ytaebmggjhjobnaa

/- Exponentials in both answers: their runs, against what they compute. -/
namespace Go.Proofs.Ytaebmggjhjobnaa
open Go.Lr
set_option linter.unusedVariables false
set_option linter.unusedSimpArgs false

def exN (v0 v1 v2 : Int) : Int := hypV [satV v0, satV v1, satV v2]
def exH0 (h : Bool) (v0 v1 v2 : Int) : Bool := h || satH v0 || satH v1 || satH v2 || hypH [satV v0, satV v1, satV v2]
def exA (v0 v1 v2 : Int) : Int := mulV (exN v0 v1 v2) 536870912 30
def exS (v0 v1 v2 : Int) : Int := divPV (sinV (exA v0 v1 v2)) (exN v0 v1 v2) 30
def exH1 (h : Bool) (v0 v1 v2 : Int) : Bool := cosH (exA v0 v1 v2) (sinH (exA v0 v1 v2) (exH0 h v0 v1 v2 || mulH (exN v0 v1 v2) 536870912 30) || divPH (sinV (exA v0 v1 v2)) (exN v0 v1 v2) 30) || mulH (satV v0) (exS v0 v1 v2) 30 || mulH (satV v1) (exS v0 v1 v2) 30 || mulH (satV v2) (exS v0 v1 v2) 30
def exB (v0 v1 v2 : Int) (hb : Bool) : Option (LV × Bool × List (Bool × Bool)) := unitS [.v (.agg [.int .i64 (cosV (exA v0 v1 v2)), .int .i64 (mulV (satV v0) (exS v0 v1 v2) 30), .int .i64 (mulV (satV v1) (exS v0 v1 v2) 30), .int .i64 (mulV (satV v2) (exS v0 v1 v2) 30)])] (exH1 hb v0 v1 v2)
def withAsk (c : Bool × Bool) (r : Option (LV × Option Blk × List (Bool × Bool))) : Option (LV × Option Blk × List (Bool × Bool)) := r.map fun q => (q.1, q.2.1, c :: q.2.2)
theorem pexZ (v0 v1 v2 : Int) (hb : Bool) : (runF Try.prog S42 Zl 2000 33 [A0, .v (.agg [.int .i64 v0, .int .i64 v1, .int .i64 v2])] [(0, flag 25 hb)] 1 [some true]).map acc3 = some (.v (.agg [.int .i64 1073741824, .int .i64 0, .int .i64 0, .int .i64 0]), some (flag 25 (exH0 hb v0 v1 v2)), [(exN v0 v1 v2 == 0, true)]) := by kernel_rfl
theorem pexN (v0 v1 v2 : Int) (hb : Bool) : (runF Try.prog S42 Zl 2000 33 [A0, .v (.agg [.int .i64 v0, .int .i64 v1, .int .i64 v2])] [(0, flag 25 hb)] 1 [some false]).map acc3 = withAsk (exN v0 v1 v2 == 0, false) (acc3S 25 (exB v0 v1 v2 hb)) := by kernel_rfl
end Go.Proofs.Ytaebmggjhjobnaa

/- Headings and exponentials in both answers: their summaries; turning vectors. -/
namespace Go.Proofs.Ytaebmggjhjobnaa
open Go.Lr
set_option linter.unusedVariables false
set_option linter.unusedSimpArgs false

theorem unitS_inv {a0 a1 a2 a3 : Int} {hb : Bool} : ∃ v h, unitS [.v (.agg [.int .i64 a0, .int .i64 a1, .int .i64 a2, .int .i64 a3])] hb = some (v, h, []) ∧ v.ok noP = true := ⟨_, _, rfl, rfl⟩
theorem acc3S_some {ty : TypeId} {r : Option (LV × Bool × List (Bool × Bool))} {v : LV} {h : Bool} {cs : List (Bool × Bool)} (e : r = some (v, h, cs)) : acc3S ty r = some (v, some (flag ty h), cs) := by subst e; rfl
theorem sumPfy : SumOK Try.prog 32 (accSum 25 fyS) := by
  refine accSum_run (z := Zl) sound42 (own_of sound42 Try.func32 (by kernel_rfl)) fun args hb v h' cs hF hc => ?_
  have hF0 := hF
  unfold fyS at hF
  split at hF
  · rename_i a
    obtain ⟨v1, h1, e, ok⟩ := unitS_inv (a0 := cosV (mulV (wrapV a) 536870912 30)) (a1 := 0) (a2 := 0) (a3 := sinV (mulV (wrapV a) 536870912 30)) (hb := sinH (mulV (wrapV a) 536870912 30) (cosH (mulV (wrapV a) 536870912 30) (hb || mulH (wrapV a) 536870912 30)))
    have hF1 := hF
    rw [e] at hF1
    cases hF1
    exact ⟨ok, 2000, [], _, (pfyR a hb).trans (acc3S_some hF0), ae_nil⟩
  · cases hF
theorem sumPyaw : SumOK Try.prog 31 (accSum 25 yawS) := by
  refine accSum_run (z := Zl) sound42 (own_of sound42 Try.func31 (by kernel_rfl)) fun args hb v h' cs hF hc => ?_
  have hF0 := hF
  unfold yawS at hF
  split at hF
  · rename_i a0 a1 a2 a3
    split at hF
    · cases hF
      exact ⟨rfl, 2000, [], _, (pyawR a0 a1 a2 a3 hb).trans (acc3S_some hF0), ae_nil⟩
    · cases hF
  · cases hF
end Go.Proofs.Ytaebmggjhjobnaa

/- Exponentials in both answers: their summaries; the second answer's turning of vectors. -/
namespace Go.Proofs.Ytaebmggjhjobnaa
open Go.Lr
set_option linter.unusedVariables false
set_option linter.unusedSimpArgs false

def expS : List LV → Bool → Option (LV × Bool × List (Bool × Bool))
  | [.v (.agg [.int .i64 v0, .int .i64 v1, .int .i64 v2])], hb => bif exN v0 v1 v2 == 0 then some (.v (.agg [.int .i64 1073741824, .int .i64 0, .int .i64 0, .int .i64 0]), exH0 hb v0 v1 v2, []) else exB v0 v1 v2 hb
  | _, _ => none
theorem exB_inv (v0 v1 v2 : Int) (hb : Bool) : ∃ v h, exB v0 v1 v2 hb = some (v, h, []) ∧ v.ok noP = true := unitS_inv
theorem sumPexp : SumOK Try.prog 33 (accSum 25 expS) := by
  refine accSum_run (z := Zl) sound42 (own_of sound42 Try.func33 (by kernel_rfl)) fun args hb v h' cs hF hc => ?_
  unfold expS at hF
  split at hF
  · rename_i v0 v1 v2
    rcases bool_cases (exN v0 v1 v2 == 0) with h | h
    · rw [cond_t h] at hF
      cases hF
      exact ⟨rfl, 2000, _, _, pexZ v0 v1 v2 hb, ae_cons h ae_nil⟩
    · rw [cond_f h] at hF
      obtain ⟨v1', h1, e, ok⟩ := exB_inv v0 v1 v2 hb
      have hF1 := hF
      rw [e] at hF1
      cases hF1
      have hr := pexN v0 v1 v2 hb
      rw [acc3S_some hF] at hr
      exact ⟨ok, 2000, _, _, hr, ae_cons h ae_nil⟩
  · cases hF
end Go.Proofs.Ytaebmggjhjobnaa

/- Tilts in both answers: the plain facts. -/
namespace Go.Proofs.Ytaebmggjhjobnaa
open Go.Lr
set_option linter.unusedVariables false
set_option linter.unusedSimpArgs false

theorem sqN (a : Int) : 0 ≤ a * a := by
  have h : 0 ≤ a ∨ a ≤ 0 := by omega
  rcases h with h | h
  · exact Int.mul_nonneg h h
  · exact Int.mul_nonneg_of_nonpos_of_nonpos h h
theorem absSq (a : Int) : absV a * absV a = a * a := by rw [← absV_mul, absV_pos (sqN a)]
theorem sqS3 (x y z : Int) : sqS (List.take 64 [x, y, z]) = satV x * satV x + (satV y * satV y + satV z * satV z) := by
  show satV x * satV x + (satV y * satV y + (satV z * satV z + 0)) = _
  omega
/-- A clamped number's square. -/
theorem sqb {s : Int} (h0 : -1152921504606846976 ≤ s) (h1 : s ≤ 1152921504606846976) : 0 ≤ s * s ∧ s * s ≤ 1329227995784915872903807060280344576 := by
  refine ⟨sqN s, ?_⟩
  have := prod_lt (a := s) (b := s) (k := 1152921504606846976) (l := 1152921504606846976) (by unfold absV; split <;> omega) (by unfold absV; split <;> omega)
  omega
theorem root_side {s N : Int} (h1 : s * s ≤ N) (hN : N < 340282366920938463463374607431768211456) : s ≤ rootW N ∧ -s ≤ rootW N := by
  have h0 := sqN s
  constructor
  · refine root_ge (by omega) hN ?_
    by_cases h : s ≤ 0
    · exact .inl h
    · exact .inr (by omega)
  · refine root_ge (by omega) hN ?_
    by_cases h : -s ≤ 0
    · exact .inl h
    · right
      have e : -s * -s = s * s := by grind
      omega
/-- A length is at least each side. -/
theorem exN_side (v0 v1 v2 : Int) : (satV v0 ≤ exN v0 v1 v2 ∧ -satV v0 ≤ exN v0 v1 v2) ∧ (satV v1 ≤ exN v0 v1 v2 ∧ -satV v1 ≤ exN v0 v1 v2) ∧ (satV v2 ≤ exN v0 v1 v2 ∧ -satV v2 ≤ exN v0 v1 v2) ∧ 0 ≤ exN v0 v1 v2 ∧ exN v0 v1 v2 ≤ 1152921504606846976 := by
  unfold exN hypV
  rw [sqS3, sat_sat, sat_sat, sat_sat]
  have b0 := sat_bd v0
  have b1 := sat_bd v1
  have b2 := sat_bd v2
  generalize satV v0 = a at *
  generalize satV v1 = b at *
  generalize satV v2 = c at *
  have q0 := sqb b0.1 b0.2
  have q1 := sqb b1.1 b1.2
  have q2 := sqb b2.1 b2.2
  have hN : a * a + (b * b + c * c) < 340282366920938463463374607431768211456 := by omega
  have s0 := root_side (s := a) (N := a * a + (b * b + c * c)) (by omega) hN
  have s1 := root_side (s := b) (N := a * a + (b * b + c * c)) (by omega) hN
  have s2 := root_side (s := c) (N := a * a + (b * b + c * c)) (by omega) hN
  generalize rootW (a * a + (b * b + c * c)) = r at *
  have hr := sat_bd r
  have : satV r = r ∨ 1152921504606846976 ≤ satV r := by
    unfold satV clampV at *
    clear hr
    (repeat' split) <;> omega
  omega
theorem exN_zero {v0 v1 v2 : Int} (h0 : satV v0 = 0) (h1 : satV v1 = 0) (h2 : satV v2 = 0) : exN v0 v1 v2 = 0 ∧ hypH [satV v0, satV v1, satV v2] = false := by
  unfold exN
  rw [h0, h1, h2]
  exact ⟨by kernel_rfl, by kernel_rfl⟩
def tlZ (v0 v1 v2 : Int) : Bool := satV v0 == 0 && (satV v1 == 0 && (satV v2 == 0 && true))
theorem tlZ_eq (v0 v1 v2 : Int) : tlZ v0 v1 v2 = (exN v0 v1 v2 == 0) := by
  have hs := exN_side v0 v1 v2
  unfold tlZ
  by_cases h : exN v0 v1 v2 = 0
  · have e0 : satV v0 = 0 := by omega
    have e1 : satV v1 = 0 := by omega
    have e2 : satV v2 = 0 := by omega
    rw [e0, e1, e2, h]
    rfl
  · have e : (exN v0 v1 v2 == 0) = false := by simpa using h
    rw [e]
    by_cases e0 : satV v0 = 0
    · by_cases e1 : satV v1 = 0
      · by_cases e2 : satV v2 = 0
        · exact absurd (exN_zero e0 e1 e2).1 h
        · simp [e2]
      · simp [e1]
    · simp [e0]
theorem tl_h {v0 v1 v2 : Int} (h : (exN v0 v1 v2 == 0) = true) (hb : Bool) : exH0 hb v0 v1 v2 = (hb || satH v0 || satH v1 || satH v2) := by
  have hs := exN_side v0 v1 v2
  have h : exN v0 v1 v2 = 0 := by simpa using h
  unfold exH0
  rw [(exN_zero (v0 := v0) (v1 := v1) (v2 := v2) (by omega) (by omega) (by omega)).2, Bool.or_false]
/-- Divided by a length: the bounds, the flag. -/
theorem dpass {v u : Int} (h0 : v ≤ u) (h1 : -v ≤ u) (h2 : 1 ≤ u) (h3 : u ≤ 1152921504606846976) :
    (-u ≤ 2 * (divPV v u 30 * u - v * 1073741824) ∧ 2 * (divPV v u 30 * u - v * 1073741824) ≤ u) ∧ (-1073741824 ≤ divPV v u 30 ∧ divPV v u 30 ≤ 1073741824) ∧ divPH v u 30 = false := by
  have key : ∀ w : Int, 0 ≤ w → w ≤ u → -u ≤ 2 * (divV (w * 1073741824) u * u - w * 1073741824) ∧ 2 * (divV (w * 1073741824) u * u - w * 1073741824) ≤ u := by
    intro w w0 w1
    rw [div_pos (a := w * 1073741824) (b := u) (by omega) (by omega)]
    exact quo_bd (by omega) (by omega)
  have odd : ∀ w : Int, divV (-w) u = -divV w u := by
    intro w
    unfold divV
    rw [absV_negate]
    have hu : decide (u < 0) = false := by simp; omega
    rw [hu]
    by_cases g0 : w = 0
    · subst g0
      have : quoR (absV 0) (absV u) = 0 := by
        rw [show absV 0 = 0 from rfl]
        exact quoR_zero (by unfold absV; split <;> omega)
      rw [this]; rfl
    · by_cases g1 : w < 0
      · have e1 : decide (w < 0) = true := by simpa using g1
        have e2 : decide (-w < 0) = false := by simp; omega
        rw [e1, e2]; unfold sgn; simp
      · have e1 : decide (w < 0) = false := by simp; omega
        have e2 : decide (-w < 0) = true := by simp; omega
        rw [e1, e2]; unfold sgn; simp
  have hd : -u ≤ 2 * (divV (v * 1073741824) u * u - v * 1073741824) ∧ 2 * (divV (v * 1073741824) u * u - v * 1073741824) ≤ u := by
    by_cases h : 0 ≤ v
    · exact key v h h0
    · have k := key (-v) (by omega) h1
      rw [show -v * 1073741824 = -(v * 1073741824) by omega, odd, Int.neg_mul] at k
      omega
  have e : pow2 (Int.toNat 30) = 1073741824 := rfl
  have hb : -1073741824 ≤ divV (v * 1073741824) u ∧ divV (v * 1073741824) u ≤ 1073741824 := by
    generalize divV (v * 1073741824) u = t at *
    constructor
    · rcases Int.lt_or_le t (-1073741824) with h | h
      · exfalso
        have : t * u ≤ -1073741825 * u := Int.mul_le_mul_of_nonneg_right (by omega) (by omega)
        omega
      · exact h
    · rcases Int.lt_or_le 1073741824 t with h | h
      · exfalso
        have : 1073741825 * u ≤ t * u := Int.mul_le_mul_of_nonneg_right (by omega) (by omega)
        omega
      · exact h
  have hs : -1152921504606846976 ≤ v ∧ v ≤ 1152921504606846976 := by omega
  have ev : divPV v u 30 = divV (v * 1073741824) u := by
    unfold divPV byV
    rw [if_neg (by decide), if_neg (by decide), e, sat_in (a := v) hs.1 hs.2, sat_in (a := u) (by omega) h3, if_neg (by omega), sat_in (by omega) (by omega)]
  refine ⟨by rw [ev]; exact hd, by rw [ev]; exact hb, ?_⟩
  unfold divPH byH
  rw [e, sat_in (a := v) hs.1 hs.2, sat_in (a := u) (by omega) h3, satH_in (a := v) hs.1 hs.2, satH_in (a := u) (by omega) h3, satH_in (a := divV (v * 1073741824) u) (by omega) (by omega)]
  have : (u == 0) = false := by simp; omega
  rw [this]; rfl

theorem sub_one {u : Int} (h0 : -1073741824 ≤ u) (h1 : u ≤ 1073741824) : subV 1073741824 u = wr .i64 (1073741824 - u) ∧ subH 1073741824 u = false := by
  unfold subV subH
  rw [sat_in (a := u) (by omega) (by omega), sat_in (a := 1073741824) (by omega) (by omega), satH_in (a := u) (by omega) (by omega), satH_in (a := 1073741824) (by omega) (by omega), satH_in (a := 1073741824 - u) (by omega) (by omega), sat_in (a := 1073741824 - u) (by omega) (by omega), wr_i, w64_in (by omega) (by omega)]
  exact ⟨rfl, rfl⟩

/-- What Unit makes: its four numbers, its flag. -/
def uV0 (a0 a1 a2 a3 : Int) : Int := bif uZ a0 a1 a2 a3 then 1073741824 else uE (satV a0) (satV a0) (satV a1) (satV a2) (satV a3)
def uV1 (a0 a1 a2 a3 : Int) : Int := bif uZ a0 a1 a2 a3 then 0 else uE (satV a1) (satV a0) (satV a1) (satV a2) (satV a3)
def uV2 (a0 a1 a2 a3 : Int) : Int := bif uZ a0 a1 a2 a3 then 0 else uE (satV a2) (satV a0) (satV a1) (satV a2) (satV a3)
def uV3 (a0 a1 a2 a3 : Int) : Int := bif uZ a0 a1 a2 a3 then 0 else uE (satV a3) (satV a0) (satV a1) (satV a2) (satV a3)
def uFl (h : Bool) (a0 a1 a2 a3 : Int) : Bool := bif uZ a0 a1 a2 a3 then uS h a0 a1 a2 a3 else uH (uS h a0 a1 a2 a3) (satV a0) (satV a1) (satV a2) (satV a3)
def tU (v v0 v1 v2 : Int) : Int := divPV (satV v) (exN v0 v1 v2) 30
theorem tU_sub {v0 v1 v2 : Int} (h : (exN v0 v1 v2 == 0) = false) : subV 1073741824 (tU v2 v0 v1 v2) = wr .i64 (1073741824 - tU v2 v0 v1 v2) ∧ subH 1073741824 (tU v2 v0 v1 v2) = false := by
  have h : exN v0 v1 v2 ≠ 0 := by simpa using h
  have hs := exN_side v0 v1 v2
  unfold tU
  have := (dpass (v := satV v2) (u := exN v0 v1 v2) (by omega) (by omega) (by omega) (by omega)).2.1
  exact sub_one this.1 this.2
end Go.Proofs.Ytaebmggjhjobnaa

/- Tilts in both answers: their runs, their summaries. -/
namespace Go.Proofs.Ytaebmggjhjobnaa
open Go.Lr
set_option linter.unusedVariables false
set_option linter.unusedSimpArgs false

def tlH (h : Bool) (v0 v1 v2 : Int) : Bool := exH0 h v0 v1 v2 || divPH (satV v0) (exN v0 v1 v2) 30 || divPH (satV v1) (exN v0 v1 v2) 30 || divPH (satV v2) (exN v0 v1 v2) 30
def tlB (w v0 v1 v2 : Int) (h : Bool) : Option (LV × Bool × List (Bool × Bool)) := unitS [.v (.agg [.int .i64 w, .int .i64 (wr IntKind.i64 (0 - tU v1 v0 v1 v2)), .int .i64 (tU v0 v0 v1 v2), .int .i64 0])] h
def tiltS : List LV → Bool → Option (LV × Bool × List (Bool × Bool))
  | [.v (.agg [.int .i64 v0, .int .i64 v1, .int .i64 v2])], hb => bif exN v0 v1 v2 == 0 then some (.v (.agg [.int .i64 1073741824, .int .i64 0, .int .i64 0, .int .i64 0]), exH0 hb v0 v1 v2, []) else
    bif decide (wr IntKind.i64 (1073741824 - tU v2 v0 v1 v2) ≤ 16) then some (.v (.agg [.int .i64 0, .int .i64 1073741824, .int .i64 0, .int .i64 0]), tlH hb v0 v1 v2, []) else tlB (wr IntKind.i64 (1073741824 - tU v2 v0 v1 v2)) v0 v1 v2 (tlH hb v0 v1 v2)
  | _, _ => none
theorem tlB_inv (w v0 v1 v2 : Int) (hb : Bool) : ∃ v h, tlB w v0 v1 v2 hb = some (v, h, []) ∧ v.ok noP = true := unitS_inv
def with2 (c d : Bool × Bool) (r : Option (LV × Option Blk × List (Bool × Bool))) : Option (LV × Option Blk × List (Bool × Bool)) := r.map fun q => (q.1, q.2.1, d :: c :: q.2.2)
theorem ptZ (v0 v1 v2 : Int) (hb : Bool) : (runF Try.prog S42 Zl 2000 38 [A0, .v (.agg [.int .i64 v0, .int .i64 v1, .int .i64 v2])] [(0, flag 25 hb)] 1 [some true]).map acc3 = some (.v (.agg [.int .i64 1073741824, .int .i64 0, .int .i64 0, .int .i64 0]), some (flag 25 (hb || satH v0 || satH v1 || satH v2)), [(tlZ v0 v1 v2, true)]) := by kernel_rfl
theorem ptL (v0 v1 v2 : Int) (hb : Bool) : (runF Try.prog S42 Zl 2000 38 [A0, .v (.agg [.int .i64 v0, .int .i64 v1, .int .i64 v2])] [(0, flag 25 hb)] 1 [some false, none, none, none, none, some true]).map acc3 = some (.v (.agg [.int .i64 0, .int .i64 1073741824, .int .i64 0, .int .i64 0]), some (flag 25 (tlH hb v0 v1 v2 || subH 1073741824 (tU v2 v0 v1 v2))), [(decide (subV 1073741824 (tU v2 v0 v1 v2) ≤ 16), true), (tlZ v0 v1 v2, false)]) := by kernel_rfl
theorem ptN (v0 v1 v2 : Int) (hb : Bool) : (runF Try.prog S42 Zl 2000 38 [A0, .v (.agg [.int .i64 v0, .int .i64 v1, .int .i64 v2])] [(0, flag 25 hb)] 1 [some false, none, none, none, none, some false]).map acc3 = with2 (tlZ v0 v1 v2, false) (decide (subV 1073741824 (tU v2 v0 v1 v2) ≤ 16), false) (acc3S 25 (tlB (subV 1073741824 (tU v2 v0 v1 v2)) v0 v1 v2 (tlH hb v0 v1 v2 || subH 1073741824 (tU v2 v0 v1 v2)))) := by kernel_rfl
theorem sumPtilt : SumOK Try.prog 38 (accSum 25 tiltS) := by
  refine accSum_run (z := Zl) sound42 (own_of sound42 Try.func38 (by kernel_rfl)) fun args hb v h' cs hF hc => ?_
  unfold tiltS at hF
  split at hF
  · rename_i v0 v1 v2
    have hz := tlZ_eq v0 v1 v2
    rcases bool_cases (exN v0 v1 v2 == 0) with h | h
    · rw [cond_t h] at hF
      cases hF
      have hr := ptZ v0 v1 v2 hb
      rw [← tl_h h] at hr
      exact ⟨rfl, 2000, _, _, hr, ae_cons (hz.trans h) ae_nil⟩
    · rw [cond_f h] at hF
      obtain ⟨es, eh⟩ := tU_sub h
      rcases bool_cases (decide (wr IntKind.i64 (1073741824 - tU v2 v0 v1 v2) ≤ 16)) with g | g
      · rw [cond_t g] at hF
        cases hF
        have hr := ptL v0 v1 v2 hb
        rw [es, eh, Bool.or_false] at hr
        exact ⟨rfl, 2000, _, _, hr, ae_cons g (ae_cons (hz.trans h) ae_nil)⟩
      · rw [cond_f g] at hF
        obtain ⟨v1', h1, e, ok⟩ := tlB_inv (wr IntKind.i64 (1073741824 - tU v2 v0 v1 v2)) v0 v1 v2 (tlH hb v0 v1 v2)
        have hF1 := hF
        rw [e] at hF1
        cases hF1
        have hr := ptN v0 v1 v2 hb
        rw [es, eh, Bool.or_false, acc3S_some hF] at hr
        exact ⟨ok, 2000, _, _, hr, ae_cons g (ae_cons (hz.trans h) ae_nil)⟩
  · cases hF
end Go.Proofs.Ytaebmggjhjobnaa

/- Turned vectors in both answers; every function of rotations summed up. -/
namespace Go.Proofs.Ytaebmggjhjobnaa
open Go.Lr
set_option linter.unusedVariables false
set_option linter.unusedSimpArgs false

def apS : List LV → Bool → Option (LV × Bool × List (Bool × Bool))
  | [.v (.agg [.int .i64 m0, .int .i64 m1, .int .i64 m2, .int .i64 m3, .int .i64 m4, .int .i64 m5, .int .i64 m6, .int .i64 m7, .int .i64 m8]), .v (.agg [.int .i64 v0, .int .i64 v1, .int .i64 v2])], hb => some (.v (.agg [.int .i64 (dotV 30 [m0, m1, m2] [v0, v1, v2]), .int .i64 (dotV 30 [m3, m4, m5] [v0, v1, v2]), .int .i64 (dotV 30 [m6, m7, m8] [v0, v1, v2])]), (hb || dotH 30 [m0, m1, m2] [v0, v1, v2] || dotH 30 [m3, m4, m5] [v0, v1, v2] || dotH 30 [m6, m7, m8] [v0, v1, v2]), [])
  | _, _ => none
theorem papR (m0 m1 m2 m3 m4 m5 m6 m7 m8 v0 v1 v2 : Int) (hb : Bool) : (runF Try.prog S42 Zl 2000 36 [A0, .v (.agg [.int .i64 m0, .int .i64 m1, .int .i64 m2, .int .i64 m3, .int .i64 m4, .int .i64 m5, .int .i64 m6, .int .i64 m7, .int .i64 m8]), .v (.agg [.int .i64 v0, .int .i64 v1, .int .i64 v2])] [(0, flag 25 hb)] 1 []).map acc3 = some (.v (.agg [.int .i64 (dotV 30 [m0, m1, m2] [v0, v1, v2]), .int .i64 (dotV 30 [m3, m4, m5] [v0, v1, v2]), .int .i64 (dotV 30 [m6, m7, m8] [v0, v1, v2])]), some (flag 25 (hb || dotH 30 [m0, m1, m2] [v0, v1, v2] || dotH 30 [m3, m4, m5] [v0, v1, v2] || dotH 30 [m6, m7, m8] [v0, v1, v2])), []) := by kernel_rfl
theorem sumpap : SumOK Try.prog 36 (accSum 25 apS) := by
  refine accSum_run (z := Zl) sound42 (own_of sound42 Try.func36 (by kernel_rfl)) fun args hb v h' cs hF hc => ?_
  unfold apS at hF
  split at hF
  · cases hF
    exact ⟨rfl, 2000, [], _, papR _ _ _ _ _ _ _ _ _ _ _ _ hb, ae_nil⟩
  · cases hF
def bkS : List LV → Bool → Option (LV × Bool × List (Bool × Bool))
  | [.v (.agg [.int .i64 m0, .int .i64 m1, .int .i64 m2, .int .i64 m3, .int .i64 m4, .int .i64 m5, .int .i64 m6, .int .i64 m7, .int .i64 m8]), .v (.agg [.int .i64 v0, .int .i64 v1, .int .i64 v2])], hb => some (.v (.agg [.int .i64 (dotV 30 [m0, m3, m6] [v0, v1, v2]), .int .i64 (dotV 30 [m1, m4, m7] [v0, v1, v2]), .int .i64 (dotV 30 [m2, m5, m8] [v0, v1, v2])]), (hb || dotH 30 [m0, m3, m6] [v0, v1, v2] || dotH 30 [m1, m4, m7] [v0, v1, v2] || dotH 30 [m2, m5, m8] [v0, v1, v2]), [])
  | _, _ => none
theorem pbkR (m0 m1 m2 m3 m4 m5 m6 m7 m8 v0 v1 v2 : Int) (hb : Bool) : (runF Try.prog S42 Zl 2000 42 [A0, .v (.agg [.int .i64 m0, .int .i64 m1, .int .i64 m2, .int .i64 m3, .int .i64 m4, .int .i64 m5, .int .i64 m6, .int .i64 m7, .int .i64 m8]), .v (.agg [.int .i64 v0, .int .i64 v1, .int .i64 v2])] [(0, flag 25 hb)] 1 []).map acc3 = some (.v (.agg [.int .i64 (dotV 30 [m0, m3, m6] [v0, v1, v2]), .int .i64 (dotV 30 [m1, m4, m7] [v0, v1, v2]), .int .i64 (dotV 30 [m2, m5, m8] [v0, v1, v2])]), some (flag 25 (hb || dotH 30 [m0, m3, m6] [v0, v1, v2] || dotH 30 [m1, m4, m7] [v0, v1, v2] || dotH 30 [m2, m5, m8] [v0, v1, v2])), []) := by kernel_rfl
theorem sumpbk : SumOK Try.prog 42 (accSum 25 bkS) := by
  refine accSum_run (z := Zl) sound42 (own_of sound42 Try.func42 (by kernel_rfl)) fun args hb v h' cs hF hc => ?_
  unfold bkS at hF
  split at hF
  · cases hF
    exact ⟨rfl, 2000, [], _, pbkR _ _ _ _ _ _ _ _ _ _ _ _ hb, ae_nil⟩
  · cases hF
def eV0 (v0 v1 v2 : Int) : Int := bif exN v0 v1 v2 == 0 then 1073741824 else uV0 (cosV (exA v0 v1 v2)) (mulV (satV v0) (exS v0 v1 v2) 30) (mulV (satV v1) (exS v0 v1 v2) 30) (mulV (satV v2) (exS v0 v1 v2) 30)
def eV1 (v0 v1 v2 : Int) : Int := bif exN v0 v1 v2 == 0 then 0 else uV1 (cosV (exA v0 v1 v2)) (mulV (satV v0) (exS v0 v1 v2) 30) (mulV (satV v1) (exS v0 v1 v2) 30) (mulV (satV v2) (exS v0 v1 v2) 30)
def eV2 (v0 v1 v2 : Int) : Int := bif exN v0 v1 v2 == 0 then 0 else uV2 (cosV (exA v0 v1 v2)) (mulV (satV v0) (exS v0 v1 v2) 30) (mulV (satV v1) (exS v0 v1 v2) 30) (mulV (satV v2) (exS v0 v1 v2) 30)
def eV3 (v0 v1 v2 : Int) : Int := bif exN v0 v1 v2 == 0 then 0 else uV3 (cosV (exA v0 v1 v2)) (mulV (satV v0) (exS v0 v1 v2) 30) (mulV (satV v1) (exS v0 v1 v2) 30) (mulV (satV v2) (exS v0 v1 v2) 30)
def eFl (h : Bool) (v0 v1 v2 : Int) : Bool := bif exN v0 v1 v2 == 0 then exH0 h v0 v1 v2 else uFl (exH1 h v0 v1 v2) (cosV (exA v0 v1 v2)) (mulV (satV v0) (exS v0 v1 v2) 30) (mulV (satV v1) (exS v0 v1 v2) 30) (mulV (satV v2) (exS v0 v1 v2) 30)
def tV0 (v0 v1 v2 : Int) : Int := bif exN v0 v1 v2 == 0 then 1073741824 else bif decide (wr IntKind.i64 (1073741824 - tU v2 v0 v1 v2) ≤ 16) then 0 else uV0 (wr IntKind.i64 (1073741824 - tU v2 v0 v1 v2)) (wr IntKind.i64 (0 - tU v1 v0 v1 v2)) (tU v0 v0 v1 v2) 0
def tV1 (v0 v1 v2 : Int) : Int := bif exN v0 v1 v2 == 0 then 0 else bif decide (wr IntKind.i64 (1073741824 - tU v2 v0 v1 v2) ≤ 16) then 1073741824 else uV1 (wr IntKind.i64 (1073741824 - tU v2 v0 v1 v2)) (wr IntKind.i64 (0 - tU v1 v0 v1 v2)) (tU v0 v0 v1 v2) 0
def tV2 (v0 v1 v2 : Int) : Int := bif exN v0 v1 v2 == 0 then 0 else bif decide (wr IntKind.i64 (1073741824 - tU v2 v0 v1 v2) ≤ 16) then 0 else uV2 (wr IntKind.i64 (1073741824 - tU v2 v0 v1 v2)) (wr IntKind.i64 (0 - tU v1 v0 v1 v2)) (tU v0 v0 v1 v2) 0
def tV3 (v0 v1 v2 : Int) : Int := bif exN v0 v1 v2 == 0 then 0 else bif decide (wr IntKind.i64 (1073741824 - tU v2 v0 v1 v2) ≤ 16) then 0 else uV3 (wr IntKind.i64 (1073741824 - tU v2 v0 v1 v2)) (wr IntKind.i64 (0 - tU v1 v0 v1 v2)) (tU v0 v0 v1 v2) 0
def tFl (h : Bool) (v0 v1 v2 : Int) : Bool := bif exN v0 v1 v2 == 0 then exH0 h v0 v1 v2 else bif decide (wr IntKind.i64 (1073741824 - tU v2 v0 v1 v2) ≤ 16) then tlH h v0 v1 v2 else uFl (tlH h v0 v1 v2) (wr IntKind.i64 (1073741824 - tU v2 v0 v1 v2)) (wr IntKind.i64 (0 - tU v1 v0 v1 v2)) (tU v0 v0 v1 v2) 0
def expN : List LV → Bool → Option (LV × Bool × List (Bool × Bool))
  | [.v (.agg [.int .i64 v0, .int .i64 v1, .int .i64 v2])], hb => some (.v (.agg [.int .i64 (eV0 v0 v1 v2), .int .i64 (eV1 v0 v1 v2), .int .i64 (eV2 v0 v1 v2), .int .i64 (eV3 v0 v1 v2)]), eFl hb v0 v1 v2, [])
  | _, _ => none
theorem expN_eq (v0 v1 v2 : Int) (hb : Bool) : expS [.v (.agg [.int .i64 v0, .int .i64 v1, .int .i64 v2])] hb = expN [.v (.agg [.int .i64 v0, .int .i64 v1, .int .i64 v2])] hb := by
  unfold expS expN eV0 eV1 eV2 eV3 eFl
  rcases bool_cases (exN v0 v1 v2 == 0) with h | h
  · simp only [h, cond_true]
  · simp only [h, cond_false]; rfl
theorem sumPexpN : SumOK Try.prog 33 (accSum 25 expN) := by
  refine (sumPexp).acc_re fun args hb v h' cs hF _ => ?_
  have hF0 := hF
  unfold expN at hF
  split at hF
  · cases hF
    exact ⟨[], (expN_eq _ _ _ hb).trans hF0, ae_nil⟩
  · cases hF
def tiltN : List LV → Bool → Option (LV × Bool × List (Bool × Bool))
  | [.v (.agg [.int .i64 v0, .int .i64 v1, .int .i64 v2])], hb => some (.v (.agg [.int .i64 (tV0 v0 v1 v2), .int .i64 (tV1 v0 v1 v2), .int .i64 (tV2 v0 v1 v2), .int .i64 (tV3 v0 v1 v2)]), tFl hb v0 v1 v2, [])
  | _, _ => none
theorem tiltN_eq (v0 v1 v2 : Int) (hb : Bool) : tiltS [.v (.agg [.int .i64 v0, .int .i64 v1, .int .i64 v2])] hb = tiltN [.v (.agg [.int .i64 v0, .int .i64 v1, .int .i64 v2])] hb := by
  unfold tiltS tiltN tV0 tV1 tV2 tV3 tFl
  rcases bool_cases (exN v0 v1 v2 == 0) with h | h
  · simp only [h, cond_true]
  · rcases bool_cases (decide (wr IntKind.i64 (1073741824 - tU v2 v0 v1 v2) ≤ 16)) with g | g
    · simp only [h, g, cond_true, cond_false]
    · simp only [h, g, cond_false]; rfl
theorem sumPtiltN : SumOK Try.prog 38 (accSum 25 tiltN) := by
  refine (sumPtilt).acc_re fun args hb v h' cs hF _ => ?_
  have hF0 := hF
  unfold tiltN at hF
  split at hF
  · cases hF
    exact ⟨[], (tiltN_eq _ _ _ hb).trans hF0, ae_nil⟩
  · cases hF
noncomputable def S43 : FuncId → Option SumK := more (more (more (more (more (more S42 32 (accSum 25 fyS)) 31 (accSum 25 yawS)) 33 (accSum 25 expN)) 38 (accSum 25 tiltN)) 36 (accSum 25 apS)) 42 (accSum 25 bkS)
theorem sound43 : Sound Try.prog S43 := (((((sound42.more sumPfy).more sumPyaw).more sumPexpN).more sumPtiltN).more sumpap).more sumpbk
end Go.Proofs.Ytaebmggjhjobnaa

/- The awake of chapter 7's law folder: its run; all summaries for its laws. -/
namespace Go.Proofs.Ytaebmggjhjobnaa
open Go.Lr
set_option linter.unusedVariables false
set_option linter.unusedSimpArgs false

theorem runAwakeR : (runF Try.prog S24 Zc 4000 30 [] [] 0 []).map (fun r => (r.1, r.2.2.2)) = some (B true, []) := by kernel_rfl
theorem sumAwakeR : SumOK Try.prog 30 (pureSum trueF) := pureSum_const sound24 (own_of sound24 Try.func30 (by kernel_rfl)) runAwakeR
noncomputable def S44 : FuncId → Option SumK := more S43 30 (pureSum trueF)
theorem sound44 : Sound Try.prog S44 := sound43.more sumAwakeR
end Go.Proofs.Ytaebmggjhjobnaa

/- Units: plain bounds of what Unit makes. -/
namespace Go.Proofs.Ytaebmggjhjobnaa
open Go.Lr
set_option linter.unusedVariables false
set_option linter.unusedSimpArgs false

theorem sqS4 (x y z w : Int) : sqS (List.take 64 [x, y, z, w]) = satV x * satV x + (satV y * satV y + (satV z * satV z + satV w * satV w)) := by
  show satV x * satV x + (satV y * satV y + (satV z * satV z + (satV w * satV w + 0))) = _
  omega
def n4 (a b c d : Int) : Int := a * a + (b * b + (c * c + d * d))
/-- A length of four. -/
theorem hyp4 {a b c d : Int} (ha : inS a) (hb : inS b) (hc : inS c) (hd : inS d) (h : 1 ≤ n4 a b c d) :
    (1 ≤ hypV [a, b, c, d] ∧ hypV [a, b, c, d] ≤ 1152921504606846976) ∧ (a ≤ hypV [a, b, c, d] ∧ -a ≤ hypV [a, b, c, d]) ∧ (b ≤ hypV [a, b, c, d] ∧ -b ≤ hypV [a, b, c, d]) ∧ (c ≤ hypV [a, b, c, d] ∧ -c ≤ hypV [a, b, c, d]) ∧ (d ≤ hypV [a, b, c, d] ∧ -d ≤ hypV [a, b, c, d]) ∧
    hypV [a, b, c, d] * hypV [a, b, c, d] - hypV [a, b, c, d] + 1 ≤ n4 a b c d ∧ (n4 a b c d ≤ 1329227995784915872903807060280344576 → n4 a b c d ≤ hypV [a, b, c, d] * hypV [a, b, c, d] + hypV [a, b, c, d] ∧ hypH [a, b, c, d] = false) := by
  have eH : hypH [a, b, c, d] = satH (rootW (n4 a b c d)) := by
    unfold hypH
    rw [sqS4, sat_in ha.1 ha.2, sat_in hb.1 hb.2, sat_in hc.1 hc.2, sat_in hd.1 hd.2]
    show ((satH a || (satH b || (satH c || (satH d || false)))) || _) = _
    rw [satH_in ha.1 ha.2, satH_in hb.1 hb.2, satH_in hc.1 hc.2, satH_in hd.1 hd.2]
    rfl
  have eV : hypV [a, b, c, d] = satV (rootW (n4 a b c d)) := by
    unfold hypV
    rw [sqS4, sat_in ha.1 ha.2, sat_in hb.1 hb.2, sat_in hc.1 hc.2, sat_in hd.1 hd.2]
    rfl
  rw [eV, eH]
  have q0 := sqb ha.1 ha.2
  have q1 := sqb hb.1 hb.2
  have q2 := sqb hc.1 hc.2
  have q3 := sqb hd.1 hd.2
  have hN : n4 a b c d < 340282366920938463463374607431768211456 := by unfold n4; omega
  have s0 := root_side (s := a) (N := n4 a b c d) (by unfold n4; omega) hN
  have s1 := root_side (s := b) (N := n4 a b c d) (by unfold n4; omega) hN
  have s2 := root_side (s := c) (N := n4 a b c d) (by unfold n4; omega) hN
  have s3 := root_side (s := d) (N := n4 a b c d) (by unfold n4; omega) hN
  obtain ⟨r0, r1, r2⟩ := rootW_spec (N := n4 a b c d) (by omega) hN
  generalize rootW (n4 a b c d) = r at *
  generalize n4 a b c d = N at *
  unfold inS at ha hb hc hd
  have hr1 : 1 ≤ r := by
    rcases Int.lt_or_le r 1 with h' | h'
    · have : r = 0 := by omega
      subst this
      omega
    · exact h'
  have r2' : r * r - r + 1 ≤ N := by
    rcases r2 with h' | h'
    · omega
    · exact h'
  by_cases hle : r ≤ 1152921504606846976
  · rw [sat_in (by omega) hle, satH_in (by omega) hle]
    exact ⟨by omega, by omega, by omega, by omega, by omega, by omega, fun _ => ⟨by omega, rfl⟩⟩
  · have hs : satV r = 1152921504606846976 := by
      unfold satV clampV
      (repeat' split) <;> omega
    have hrr : 1152921504606846977 * 1152921504606846976 ≤ r * (r - 1) := Int.mul_le_mul (by omega) (by omega) (by omega) (by omega)
    have e : r * (r - 1) = r * r - r := by grind
    rw [hs]
    exact ⟨by omega, by omega, by omega, by omega, by omega, by omega, fun h => absurd h (by omega)⟩

theorem sq_low {t s n : Int} (h0 : s ≤ n) (h1 : -s ≤ n) (hn : 1 ≤ n) (e0 : -n ≤ 2 * (t * n - s * 1073741824)) (e1 : 2 * (t * n - s * 1073741824) ≤ n) :
    s * s * 1152921504606846976 - 1073741824 * (n * n) ≤ t * t * (n * n) := by
  have p := prod_lt (a := s) (b := 2 * (t * n - s * 1073741824)) (k := n) (l := n) (by unfold absV; split <;> omega) (by unfold absV; split <;> omega)
  have q := sqN (t * n - s * 1073741824)
  have g1 : s * (2 * (t * n - s * 1073741824)) = 2 * (s * t * n) - 2147483648 * (s * s) := by grind
  have g2 : (t * n - s * 1073741824) * (t * n - s * 1073741824) = t * t * (n * n) - 2147483648 * (s * t * n) + 1152921504606846976 * (s * s) := by grind
  omega
/-- One pass: the numbers are about a Unit's. -/
theorem pass1 {a b c d n : Int} (hn : 1 ≤ n) (hn1 : n ≤ 1152921504606846976) (ha : a ≤ n ∧ -a ≤ n) (hb : b ≤ n ∧ -b ≤ n) (hc : c ≤ n ∧ -c ≤ n) (hd : d ≤ n ∧ -d ≤ n) (hN : n * n - n + 1 ≤ n4 a b c d) :
    3458764496640671744 ≤ 4 * n4 (divPV a n 30) (divPV b n 30) (divPV c n 30) (divPV d n 30) := by
  have a1 := sq_low ha.1 ha.2 hn (dpass ha.1 ha.2 hn hn1).1.1 (dpass ha.1 ha.2 hn hn1).1.2
  have b1 := sq_low hb.1 hb.2 hn (dpass hb.1 hb.2 hn hn1).1.1 (dpass hb.1 hb.2 hn hn1).1.2
  have c1 := sq_low hc.1 hc.2 hn (dpass hc.1 hc.2 hn hn1).1.1 (dpass hc.1 hc.2 hn hn1).1.2
  have d1 := sq_low hd.1 hd.2 hn (dpass hd.1 hd.2 hn hn1).1.1 (dpass hd.1 hd.2 hn hn1).1.2
  generalize divPV a n 30 = a' at *
  generalize divPV b n 30 = b' at *
  generalize divPV c n 30 = c' at *
  generalize divPV d n 30 = d' at *
  unfold n4 at *
  have hp : 0 < n * n := Int.mul_pos (by omega) (by omega)
  have h3 : 3 * (n * n) ≤ 4 * (a * a + (b * b + (c * c + d * d))) := by
    have q := sqN (n - 2)
    have e : (n - 2) * (n - 2) = n * n - 4 * n + 4 := by grind
    omega
  have e : (4 * (a' * a' + (b' * b' + (c' * c' + d' * d')))) * (n * n) = 4 * (a' * a' * (n * n) + (b' * b' * (n * n) + (c' * c' * (n * n) + d' * d' * (n * n)))) := by grind
  refine Int.le_of_mul_le_mul_right (a := n * n) ?_ hp
  rw [e]
  omega

/-- The sum of four numbers' sizes against the squares' (Cauchy and Schwarz). -/
theorem cs4 {a b c d m : Int} (hm : 0 ≤ m) (h : n4 a b c d ≤ m * m + m) : absV a + absV b + absV c + absV d ≤ 2 * m := by
  unfold n4 at h
  rw [← absSq a, ← absSq b, ← absSq c, ← absSq d] at h
  have a0 := absV_nn a
  have b0 := absV_nn b
  have c0 := absV_nn c
  have d0 := absV_nn d
  generalize absV a = x at *
  generalize absV b = y at *
  generalize absV c = z at *
  generalize absV d = w at *
  rcases Int.lt_or_le (2 * m) (x + y + z + w) with hl | hl
  · exfalso
    have q : (2 * m + 1) * (2 * m + 1) ≤ (x + y + z + w) * (x + y + z + w) := Int.mul_le_mul (by omega) (by omega) (by omega) (by omega)
    have e1 : (2 * m + 1) * (2 * m + 1) = 4 * (m * m) + 4 * m + 1 := by grind
    have q1 := sqN (x - y)
    have q2 := sqN (x - z)
    have q3 := sqN (x - w)
    have q4 := sqN (y - z)
    have q5 := sqN (y - w)
    have q6 := sqN (z - w)
    have e2 : (x + y + z + w) * (x + y + z + w) = 4 * (x * x + (y * y + (z * z + w * w))) - (x - y) * (x - y) - (x - z) * (x - z) - (x - w) * (x - w) - (y - z) * (y - z) - (y - w) * (y - w) - (z - w) * (z - w) := by grind
    omega
  · exact hl
/-- One number's square after a pass. -/
theorem sq_both {u t m : Int} (e0 : -m ≤ 2 * (u * m - t * 1073741824)) (e1 : 2 * (u * m - t * 1073741824) ≤ m) :
    -(4294967296 * (absV t * m)) ≤ 4 * (u * u * (m * m)) - 4611686018427387904 * (t * t) ∧ 4 * (u * u * (m * m)) - 4611686018427387904 * (t * t) ≤ 4294967296 * (absV t * m) + m * m := by
  have p := prod_lt (a := t) (b := 2 * (u * m - t * 1073741824)) (k := absV t) (l := m) (Int.le_refl _) (by unfold absV; split <;> omega)
  have q := prod_lt (a := 2 * (u * m - t * 1073741824)) (b := 2 * (u * m - t * 1073741824)) (k := m) (l := m) (by unfold absV; split <;> omega) (by unfold absV; split <;> omega)
  have q0 := sqN (2 * (u * m - t * 1073741824))
  have g1 : t * (2 * (u * m - t * 1073741824)) = 2 * (t * u * m) - 2147483648 * (t * t) := by grind
  have g2 : 2 * (u * m - t * 1073741824) * (2 * (u * m - t * 1073741824)) = 4 * (u * u * (m * m)) - 8589934592 * (t * u * m) + 4611686018427387904 * (t * t) := by grind
  omega
/-- Near One times One. -/
def nearU (N : Int) : Prop := -7516192768 ≤ 2 * (N - 1152921504606846976) ∧ 2 * (N - 1152921504606846976) ≤ 7516192768
theorem pass2 {a b c d m : Int} (hm : 3221225472 ≤ 4 * m) (hm1 : m ≤ 1152921504606846976) (ha : a ≤ m ∧ -a ≤ m) (hb : b ≤ m ∧ -b ≤ m) (hc : c ≤ m ∧ -c ≤ m) (hd : d ≤ m ∧ -d ≤ m) (hN : m * m - m + 1 ≤ n4 a b c d) (hN1 : n4 a b c d ≤ m * m + m) :
    nearU (n4 (divPV a m 30) (divPV b m 30) (divPV c m 30) (divPV d m 30)) := by
  have hn : 1 ≤ m := by omega
  have a1 := sq_both (dpass ha.1 ha.2 hn hm1).1.1 (dpass ha.1 ha.2 hn hm1).1.2
  have b1 := sq_both (dpass hb.1 hb.2 hn hm1).1.1 (dpass hb.1 hb.2 hn hm1).1.2
  have c1 := sq_both (dpass hc.1 hc.2 hn hm1).1.1 (dpass hc.1 hc.2 hn hm1).1.2
  have d1 := sq_both (dpass hd.1 hd.2 hn hm1).1.1 (dpass hd.1 hd.2 hn hm1).1.2
  have cs := cs4 (by omega) hN1
  generalize divPV a m 30 = a' at *
  generalize divPV b m 30 = b' at *
  generalize divPV c m 30 = c' at *
  generalize divPV d m 30 = d' at *
  have hp : 0 < m * m := Int.mul_pos (by omega) (by omega)
  have hs : (absV a + absV b + absV c + absV d) * m ≤ 2 * m * m := Int.mul_le_mul_of_nonneg_right cs (by omega)
  have es : (absV a + absV b + absV c + absV d) * m = absV a * m + absV b * m + absV c * m + absV d * m := by grind
  have e2 : 2 * m * m = 2 * (m * m) := by grind
  have h4 : 3221225472 * m ≤ 4 * m * m := Int.mul_le_mul_of_nonneg_right hm (by omega)
  have e4 : 4 * m * m = 4 * (m * m) := by grind
  unfold nearU
  unfold n4 at *
  have e : (a' * a' + (b' * b' + (c' * c' + d' * d'))) * (m * m) = a' * a' * (m * m) + (b' * b' * (m * m) + (c' * c' * (m * m) + d' * d' * (m * m))) := by grind
  generalize a' * a' + (b' * b' + (c' * c' + d' * d')) = U at *
  constructor
  · refine Int.le_of_mul_le_mul_right (a := m * m) ?_ hp
    have e5 : 2 * (U - 1152921504606846976) * (m * m) = 2 * (U * (m * m)) - 2305843009213693952 * (m * m) := by grind
    rw [e5]
    omega
  · refine Int.le_of_mul_le_mul_right (a := m * m) ?_ hp
    have e5 : 2 * (U - 1152921504606846976) * (m * m) = 2 * (U * (m * m)) - 2305843009213693952 * (m * m) := by grind
    rw [e5]
    omega
end Go.Proofs.Ytaebmggjhjobnaa

/- Units: what Unit makes of any numbers is near a Unit; again it is near itself. -/
namespace Go.Proofs.Ytaebmggjhjobnaa
open Go.Lr
set_option linter.unusedVariables false
set_option linter.unusedSimpArgs false

/-- Numbers of a Unit. -/
structure UnitQ (a b c d : Int) : Prop where
  ha : -1073741824 ≤ a ∧ a ≤ 1073741824
  hb : -1073741824 ≤ b ∧ b ≤ 1073741824
  hc : -1073741824 ≤ c ∧ c ≤ 1073741824
  hd : -1073741824 ≤ d ∧ d ≤ 1073741824
  hn : nearU (n4 a b c d)
theorem inS_bd {a : Int} (h : -1073741824 ≤ a ∧ a ≤ 1073741824) : inS a := by unfold inS; omega
theorem n4_pos {a b c d : Int} (h : ¬ (a = 0 ∧ b = 0 ∧ c = 0 ∧ d = 0)) : 1 ≤ n4 a b c d := by
  have pos : ∀ x : Int, x ≠ 0 → 1 ≤ x * x := by
    intro x hx
    have h1 : x * x ≠ 0 := by
      intro e
      rcases Int.mul_eq_zero.1 e with h | h <;> exact hx h
    have := sqN x
    omega
  have q0 := sqN a
  have q1 := sqN b
  have q2 := sqN c
  have q3 := sqN d
  have p0 := pos a
  have p1 := pos b
  have p2 := pos c
  have p3 := pos d
  unfold n4
  by_cases e0 : a = 0
  · by_cases e1 : b = 0
    · by_cases e2 : c = 0
      · by_cases e3 : d = 0
        · exact absurd ⟨e0, e1, e2, e3⟩ h
        · have := p3 e3; omega
      · have := p2 e2; omega
    · have := p1 e1; omega
  · have := p0 e0; omega
theorem uZ_pos {a b c d : Int} (h : uZ a b c d = false) : 1 ≤ n4 (satV a) (satV b) (satV c) (satV d) := by
  refine n4_pos fun ⟨e0, e1, e2, e3⟩ => ?_
  unfold uZ at h
  rw [e0, e1, e2, e3] at h
  exact absurd h (by decide)
theorem len_big {m N : Int} (h0 : 0 ≤ m) (h1 : N ≤ m * m + m) (h2 : 3458764496640671744 ≤ 4 * N) : 3221225472 ≤ 4 * m := by
  rcases Int.lt_or_le (4 * m) 3221225472 with h | h
  · exfalso
    have : m * m ≤ 805306367 * 805306367 := Int.mul_le_mul (by omega) (by omega) (by omega) (by omega)
    omega
  · exact h
theorem n4_le {a b c d : Int} (ha : -1073741824 ≤ a ∧ a ≤ 1073741824) (hb : -1073741824 ≤ b ∧ b ≤ 1073741824) (hc : -1073741824 ≤ c ∧ c ≤ 1073741824) (hd : -1073741824 ≤ d ∧ d ≤ 1073741824) : n4 a b c d ≤ 4611686018427387904 := by
  have sq : ∀ x : Int, -1073741824 ≤ x ∧ x ≤ 1073741824 → x * x ≤ 1152921504606846976 := by
    intro x hx
    exact (prod_lt (a := x) (b := x) (k := 1073741824) (l := 1073741824) (by unfold absV; split <;> omega) (by unfold absV; split <;> omega)).2
  have p0 := sq a ha
  have p1 := sq b hb
  have p2 := sq c hc
  have p3 := sq d hd
  unfold n4
  omega
/-- The second pass. -/
theorem second {a b c d : Int} (ha : -1073741824 ≤ a ∧ a ≤ 1073741824) (hb : -1073741824 ≤ b ∧ b ≤ 1073741824) (hc : -1073741824 ≤ c ∧ c ≤ 1073741824) (hd : -1073741824 ≤ d ∧ d ≤ 1073741824) (h : 3458764496640671744 ≤ 4 * n4 a b c d) :
    UnitQ (divPV a (hypV [a, b, c, d]) 30) (divPV b (hypV [a, b, c, d]) 30) (divPV c (hypV [a, b, c, d]) 30) (divPV d (hypV [a, b, c, d]) 30) := by
  obtain ⟨m0, mA, mB, mC, mD, m1, m2⟩ := hyp4 (inS_bd ha) (inS_bd hb) (inS_bd hc) (inS_bd hd) (by omega)
  have le := n4_le ha hb hc hd
  obtain ⟨m3, -⟩ := m2 (by omega)
  have big := len_big (by omega) m3 h
  exact ⟨(dpass mA.1 mA.2 m0.1 m0.2).2.1, (dpass mB.1 mB.2 m0.1 m0.2).2.1, (dpass mC.1 mC.2 m0.1 m0.2).2.1, (dpass mD.1 mD.2 m0.1 m0.2).2.1, pass2 big m0.2 mA mB mC mD m1 m3⟩
/-- What Unit makes is a Unit. -/
theorem unit_ok (a b c d : Int) : UnitQ (uV0 a b c d) (uV1 a b c d) (uV2 a b c d) (uV3 a b c d) := by
  unfold uV0 uV1 uV2 uV3
  rcases bool_cases (uZ a b c d) with h | h
  · rw [cond_t h, cond_t h, cond_t h, cond_t h]
    exact ⟨by omega, by omega, by omega, by omega, by unfold nearU n4; omega⟩
  · rw [cond_f h, cond_f h, cond_f h, cond_f h]
    have hp := uZ_pos h
    have sa := inS_sat a
    have sb := inS_sat b
    have sc := inS_sat c
    have sd := inS_sat d
    unfold uE
    generalize satV a = a at *
    generalize satV b = b at *
    generalize satV c = c at *
    generalize satV d = d at *
    obtain ⟨m0, mA, mB, mC, mD, m1, -⟩ := hyp4 sa sb sc sd hp
    refine second (dpass mA.1 mA.2 m0.1 m0.2).2.1 (dpass mB.1 mB.2 m0.1 m0.2).2.1 (dpass mC.1 mC.2 m0.1 m0.2).2.1 (dpass mD.1 mD.2 m0.1 m0.2).2.1 ?_
    exact pass1 m0.1 m0.2 mA mB mC mD m1
/-- A Unit's length. -/
theorem unit_len {a b c d : Int} (h : UnitQ a b c d) : 1073741822 ≤ hypV [a, b, c, d] ∧ hypV [a, b, c, d] ≤ 1073741826 := by
  obtain ⟨ha, hb, hc, hd, hn⟩ := h
  unfold nearU at hn
  obtain ⟨m0, -, -, -, -, m1, m2⟩ := hyp4 (inS_bd ha) (inS_bd hb) (inS_bd hc) (inS_bd hd) (by omega)
  have le := n4_le ha hb hc hd
  obtain ⟨m3, -⟩ := m2 (by omega)
  generalize hypV [a, b, c, d] = m at *
  generalize n4 a b c d = N at *
  constructor
  · rcases Int.lt_or_le m 1073741822 with g | g
    · exfalso
      have : m * m ≤ 1073741821 * 1073741821 := Int.mul_le_mul (by omega) (by omega) (by omega) (by omega)
      omega
    · exact g
  · rcases Int.lt_or_le 1073741826 m with g | g
    · exfalso
      have : 1073741827 * 1073741826 ≤ m * (m - 1) := Int.mul_le_mul (by omega) (by omega) (by omega) (by omega)
      have e : m * (m - 1) = m * m - m := by grind
      omega
    · exact g
theorem near_div {a n : Int} (ha : -1073741824 ≤ a ∧ a ≤ 1073741824) (h0 : a ≤ n ∧ -a ≤ n) (hn : 1073741822 ≤ n) (hn1 : n ≤ 1073741826) : -2 ≤ divPV a n 30 - a ∧ divPV a n 30 - a ≤ 2 := by
  have h := (dpass h0.1 h0.2 (by omega) (by omega)).1
  generalize divPV a n 30 = t at *
  have e : t * n - a * 1073741824 = (t - a) * n + a * (n - 1073741824) := by grind
  have p := prod_lt (a := a) (b := n - 1073741824) (k := 1073741824) (l := 2) (by unfold absV; split <;> omega) (by unfold absV; split <;> omega)
  rw [e] at h
  generalize a * (n - 1073741824) = w at *
  generalize t - a = x at *
  constructor
  · rcases Int.lt_or_le x (-2) with g | g
    · exfalso
      have : x * n ≤ -3 * n := Int.mul_le_mul_of_nonneg_right (by omega) (by omega)
      omega
    · exact g
  · rcases Int.lt_or_le 2 x with g | g
    · exfalso
      have : 3 * n ≤ x * n := Int.mul_le_mul_of_nonneg_right (by omega) (by omega)
      omega
    · exact g
/-- A pass over a Unit. -/
theorem unit_pass {a b c d : Int} (h : UnitQ a b c d) : UnitQ (divPV a (hypV [a, b, c, d]) 30) (divPV b (hypV [a, b, c, d]) 30) (divPV c (hypV [a, b, c, d]) 30) (divPV d (hypV [a, b, c, d]) 30) ∧
    (-2 ≤ divPV a (hypV [a, b, c, d]) 30 - a ∧ divPV a (hypV [a, b, c, d]) 30 - a ≤ 2) ∧ (-2 ≤ divPV b (hypV [a, b, c, d]) 30 - b ∧ divPV b (hypV [a, b, c, d]) 30 - b ≤ 2) ∧ (-2 ≤ divPV c (hypV [a, b, c, d]) 30 - c ∧ divPV c (hypV [a, b, c, d]) 30 - c ≤ 2) ∧ (-2 ≤ divPV d (hypV [a, b, c, d]) 30 - d ∧ divPV d (hypV [a, b, c, d]) 30 - d ≤ 2) := by
  have hl := unit_len h
  obtain ⟨ha, hb, hc, hd, hn⟩ := h
  unfold nearU at hn
  obtain ⟨m0, mA, mB, mC, mD, m1, m2⟩ := hyp4 (inS_bd ha) (inS_bd hb) (inS_bd hc) (inS_bd hd) (by omega)
  exact ⟨second ha hb hc hd (by omega), near_div ha mA hl.1 hl.2, near_div hb mB hl.1 hl.2, near_div hc mC hl.1 hl.2, near_div hd mD hl.1 hl.2⟩
/-- A Unit made a Unit again is near itself. -/
theorem unit_again {a b c d : Int} (h : UnitQ a b c d) : (-4 ≤ uV0 a b c d - a ∧ uV0 a b c d - a ≤ 4) ∧ (-4 ≤ uV1 a b c d - b ∧ uV1 a b c d - b ≤ 4) ∧ (-4 ≤ uV2 a b c d - c ∧ uV2 a b c d - c ≤ 4) ∧ (-4 ≤ uV3 a b c d - d ∧ uV3 a b c d - d ≤ 4) := by
  have hz : uZ a b c d = false := by
    rcases bool_cases (uZ a b c d) with g | g
    · exfalso
      have hn := h.hn
      unfold uZ at g
      simp only [Bool.and_eq_true, Bool.and_true, beq_iff_eq] at g
      obtain ⟨e0, e1, e2, e3⟩ := g
      have i0 := inS_bd h.ha
      have i1 := inS_bd h.hb
      have i2 := inS_bd h.hc
      have i3 := inS_bd h.hd
      rw [sat_in i0.1 i0.2] at e0
      rw [sat_in i1.1 i1.2] at e1
      rw [sat_in i2.1 i2.2] at e2
      rw [sat_in i3.1 i3.2] at e3
      subst e0 e1 e2 e3
      unfold nearU n4 at hn
      omega
    · exact g
  have i0 := inS_bd h.ha
  have i1 := inS_bd h.hb
  have i2 := inS_bd h.hc
  have i3 := inS_bd h.hd
  obtain ⟨p, a1, b1, c1, d1⟩ := unit_pass h
  obtain ⟨-, a2, b2, c2, d2⟩ := unit_pass p
  unfold uV0 uV1 uV2 uV3
  rw [cond_f hz, cond_f hz, cond_f hz, cond_f hz, sat_in i0.1 i0.2, sat_in i1.1 i1.2, sat_in i2.1 i2.2, sat_in i3.1 i3.2]
  unfold uE
  omega
end Go.Proofs.Ytaebmggjhjobnaa

/- Products of Units: plain bounds. -/
namespace Go.Proofs.Ytaebmggjhjobnaa
open Go.Lr
set_option linter.unusedVariables false
set_option linter.unusedSimpArgs false

def q0 (a0 a1 a2 a3 b0 b1 b2 b3 : Int) : Int := a0 * b0 - a1 * b1 - a2 * b2 - a3 * b3
def q1 (a0 a1 a2 a3 b0 b1 b2 b3 : Int) : Int := a0 * b1 + a1 * b0 + a2 * b3 - a3 * b2
def q2 (a0 a1 a2 a3 b0 b1 b2 b3 : Int) : Int := a0 * b2 - a1 * b3 + a2 * b0 + a3 * b1
def q3 (a0 a1 a2 a3 b0 b1 b2 b3 : Int) : Int := a0 * b3 + a1 * b2 - a2 * b1 + a3 * b0
/-- Within 2^33. -/
def sm (x : Int) : Prop := -8589934592 ≤ x ∧ x ≤ 8589934592
def one (x : Int) : Prop := -1073741824 ≤ x ∧ x ≤ 1073741824
theorem one.sm {x : Int} (h : one x) : sm x := by unfold one Go.Proofs.Ytaebmggjhjobnaa.sm at *; omega
theorem sm.inS {x : Int} (h : sm x) : Go.Proofs.Ytaebmggjhjobnaa.inS x := by unfold sm Go.Proofs.Ytaebmggjhjobnaa.inS at *; omega
theorem sm.neg {x : Int} (h : sm x) : sm (-x) := by unfold sm at *; omega
theorem one.neg {x : Int} (h : one x) : one (-x) := by unfold one at *; omega
theorem sm.mul {x y : Int} (h : sm x) (g : sm y) : -73786976294838206464 ≤ x * y ∧ x * y ≤ 73786976294838206464 := by
  unfold sm at *
  exact prod_lt (a := x) (b := y) (k := 8589934592) (l := 8589934592) (by unfold absV; split <;> omega) (by unfold absV; split <;> omega)
theorem one.mul {x y : Int} (h : one x) (g : one y) : -1152921504606846976 ≤ x * y ∧ x * y ≤ 1152921504606846976 := by
  unfold one at *
  exact prod_lt (a := x) (b := y) (k := 1073741824) (l := 1073741824) (by unfold absV; split <;> omega) (by unfold absV; split <;> omega)
/-- p is w by 2^30, rounded. -/
def RN (p w : Int) : Prop := -1073741824 ≤ 2 * (p * 1073741824 - w) ∧ 2 * (p * 1073741824 - w) ≤ 1073741824
theorem rn_rnd (w : Int) : RN (rndV w 30) w := by
  have h := rnd_bd w 30
  have e : pow2 30 = 1073741824 := rfl
  rw [e] at h
  exact h
theorem rs30 {w : Int} (h0 : -1208925819614629174706176 ≤ w) (h1 : w ≤ 1208925819614629174706176) : rndS w 30 = rndV w 30 ∧ rndH w 30 = false := by
  have h := rn_rnd w
  unfold RN at h
  have e : Int.toNat 30 = 30 := rfl
  unfold rndS rndH
  rw [e, if_neg (by decide), if_neg (by decide), sat_in (by omega) (by omega), satH_in (by omega) (by omega)]
  exact ⟨rfl, rfl⟩
theorem dotO {x0 x1 x2 x3 y0 y1 y2 y3 w : Int} (a0 : sm x0) (a1 : sm x1) (a2 : sm x2) (a3 : sm x3) (b0 : sm y0) (b1 : sm y1) (b2 : sm y2) (b3 : sm y3) (hw : x0 * y0 + (x1 * y1 + (x2 * y2 + (x3 * y3 + 0))) = w) :
    dotV 30 [x0, x1, x2, x3] [y0, y1, y2, y3] = rndV w 30 ∧ dotH 30 [x0, x1, x2, x3] [y0, y1, y2, y3] = false := by
  obtain ⟨e, f⟩ := dot4 a0.inS a1.inS a2.inS a3.inS b0.inS b1.inS b2.inS b3.inS
  rw [e, f, hw]
  have m0 := a0.mul b0
  have m1 := a1.mul b1
  have m2 := a2.mul b2
  have m3 := a3.mul b3
  exact rs30 (by omega) (by omega)
/-- A product of quaternions. -/
def mq0 (a0 a1 a2 a3 b0 b1 b2 b3 : Int) : Int := dotV 30 [satV a0, satV a1, satV a2, satV a3] [satV b0, wr IntKind.i64 (0 - satV b1), wr IntKind.i64 (0 - satV b2), wr IntKind.i64 (0 - satV b3)]
def mq1 (a0 a1 a2 a3 b0 b1 b2 b3 : Int) : Int := dotV 30 [satV a0, satV a1, satV a2, satV a3] [satV b1, satV b0, satV b3, wr IntKind.i64 (0 - satV b2)]
def mq2 (a0 a1 a2 a3 b0 b1 b2 b3 : Int) : Int := dotV 30 [satV a0, satV a1, satV a2, satV a3] [satV b2, wr IntKind.i64 (0 - satV b3), satV b0, satV b1]
def mq3 (a0 a1 a2 a3 b0 b1 b2 b3 : Int) : Int := dotV 30 [satV a0, satV a1, satV a2, satV a3] [satV b3, satV b2, wr IntKind.i64 (0 - satV b1), satV b0]
theorem sm.sat {x : Int} (h : sm x) : satV x = x ∧ satH x = false := ⟨sat_in h.inS.1 h.inS.2, satH_in h.inS.1 h.inS.2⟩
theorem mq_eq {a0 a1 a2 a3 b0 b1 b2 b3 : Int} (g0 : sm a0) (g1 : sm a1) (g2 : sm a2) (g3 : sm a3) (h0 : sm b0) (h1 : sm b1) (h2 : sm b2) (h3 : sm b3) :
    mq0 a0 a1 a2 a3 b0 b1 b2 b3 = rndV (q0 a0 a1 a2 a3 b0 b1 b2 b3) 30 ∧ mq1 a0 a1 a2 a3 b0 b1 b2 b3 = rndV (q1 a0 a1 a2 a3 b0 b1 b2 b3) 30 ∧ mq2 a0 a1 a2 a3 b0 b1 b2 b3 = rndV (q2 a0 a1 a2 a3 b0 b1 b2 b3) 30 ∧ mq3 a0 a1 a2 a3 b0 b1 b2 b3 = rndV (q3 a0 a1 a2 a3 b0 b1 b2 b3) 30 ∧ ∀ h, mulQH h a0 a1 a2 a3 b0 b1 b2 b3 = h := by
  unfold mq0 mq1 mq2 mq3 mulQH
  rw [g0.sat.1, g1.sat.1, g2.sat.1, g3.sat.1, h0.sat.1, h1.sat.1, h2.sat.1, h3.sat.1, g0.sat.2, g1.sat.2, g2.sat.2, g3.sat.2, h0.sat.2, h1.sat.2, h2.sat.2, h3.sat.2, wneg h1.inS, wneg h2.inS, wneg h3.inS]
  obtain ⟨e0, f0⟩ := dotO (w := q0 a0 a1 a2 a3 b0 b1 b2 b3) g0 g1 g2 g3 h0 h1.neg h2.neg h3.neg (by unfold q0; grind)
  obtain ⟨e1, f1⟩ := dotO (w := q1 a0 a1 a2 a3 b0 b1 b2 b3) g0 g1 g2 g3 h1 h0 h3 h2.neg (by unfold q1; grind)
  obtain ⟨e2, f2⟩ := dotO (w := q2 a0 a1 a2 a3 b0 b1 b2 b3) g0 g1 g2 g3 h2 h3.neg h0 h1 (by unfold q2; grind)
  obtain ⟨e3, f3⟩ := dotO (w := q3 a0 a1 a2 a3 b0 b1 b2 b3) g0 g1 g2 g3 h3 h2 h1.neg h0 (by unfold q3; grind)
  rw [e0, e1, e2, e3, f0, f1, f2, f3]
  exact ⟨rfl, rfl, rfl, rfl, fun h => by simp⟩
theorem rnd_sm {w : Int} (h0 : -5764607523034234880 ≤ w) (h1 : w ≤ 5764607523034234880) : sm (rndV w 30) := by
  have h := rn_rnd w
  unfold RN at h
  unfold sm
  omega
theorem q_bd {a0 a1 a2 a3 b0 b1 b2 b3 : Int} (g0 : one a0) (g1 : one a1) (g2 : one a2) (g3 : one a3) (h0 : one b0) (h1 : one b1) (h2 : one b2) (h3 : one b3) :
    sm (rndV (q0 a0 a1 a2 a3 b0 b1 b2 b3) 30) ∧ sm (rndV (q1 a0 a1 a2 a3 b0 b1 b2 b3) 30) ∧ sm (rndV (q2 a0 a1 a2 a3 b0 b1 b2 b3) 30) ∧ sm (rndV (q3 a0 a1 a2 a3 b0 b1 b2 b3) 30) := by
  refine ⟨?_, ?_, ?_, ?_⟩
  · have := g0.mul h0
    have := g1.mul h1
    have := g2.mul h2
    have := g3.mul h3
    exact rnd_sm (by unfold q0; omega) (by unfold q0; omega)
  · have := g0.mul h1
    have := g1.mul h0
    have := g2.mul h3
    have := g3.mul h2
    exact rnd_sm (by unfold q1; omega) (by unfold q1; omega)
  · have := g0.mul h2
    have := g1.mul h3
    have := g2.mul h0
    have := g3.mul h1
    exact rnd_sm (by unfold q2; omega) (by unfold q2; omega)
  · have := g0.mul h3
    have := g1.mul h2
    have := g2.mul h1
    have := g3.mul h0
    exact rnd_sm (by unfold q3; omega) (by unfold q3; omega)
/-- A sum of four rounded numbers' products, rounded: against the sum of the numbers' own. -/
theorem grp {x p0 p1 p2 p3 w0 w1 w2 w3 d0 d1 d2 d3 : Int} (hx : RN x (p0 * d0 + p1 * d1 + p2 * d2 + p3 * d3)) (r0 : RN p0 w0) (r1 : RN p1 w1) (r2 : RN p2 w2) (r3 : RN p3 w3) (h0 : one d0) (h1 : one d1) (h2 : one d2) (h3 : one d3) :
    -5764607523034234880 ≤ 2 * (x * 1152921504606846976 - (w0 * d0 + w1 * d1 + w2 * d2 + w3 * d3)) ∧ 2 * (x * 1152921504606846976 - (w0 * d0 + w1 * d1 + w2 * d2 + w3 * d3)) ≤ 5764607523034234880 := by
  have b0 := one.mul (x := 2 * (p0 * 1073741824 - w0)) r0 h0
  have b1 := one.mul (x := 2 * (p1 * 1073741824 - w1)) r1 h1
  have b2 := one.mul (x := 2 * (p2 * 1073741824 - w2)) r2 h2
  have b3 := one.mul (x := 2 * (p3 * 1073741824 - w3)) r3 h3
  have e : ∀ p w d : Int, 2 * (p * 1073741824 - w) * d = 2147483648 * (p * d) - 2 * (w * d) := by intro p w d; grind
  rw [e] at b0 b1 b2 b3
  unfold RN at hx
  omega
/-- Three factors, grouped both ways. -/
theorem groups {a0 a1 a2 a3 b0 b1 b2 b3 d0 d1 d2 d3 : Int} (ga0 : one a0) (ga1 : one a1) (ga2 : one a2) (ga3 : one a3) (gd0 : one d0) (gd1 : one d1) (gd2 : one d2) (gd3 : one d3)
    {p0 p1 p2 p3 r0 r1 r2 r3 x0 x1 x2 x3 y0 y1 y2 y3 : Int} (hp0 : RN p0 (q0 a0 a1 a2 a3 b0 b1 b2 b3)) (hp1 : RN p1 (q1 a0 a1 a2 a3 b0 b1 b2 b3)) (hp2 : RN p2 (q2 a0 a1 a2 a3 b0 b1 b2 b3)) (hp3 : RN p3 (q3 a0 a1 a2 a3 b0 b1 b2 b3))
    (hr0 : RN r0 (q0 b0 b1 b2 b3 d0 d1 d2 d3)) (hr1 : RN r1 (q1 b0 b1 b2 b3 d0 d1 d2 d3)) (hr2 : RN r2 (q2 b0 b1 b2 b3 d0 d1 d2 d3)) (hr3 : RN r3 (q3 b0 b1 b2 b3 d0 d1 d2 d3))
    (hx0 : RN x0 (q0 p0 p1 p2 p3 d0 d1 d2 d3)) (hx1 : RN x1 (q1 p0 p1 p2 p3 d0 d1 d2 d3)) (hx2 : RN x2 (q2 p0 p1 p2 p3 d0 d1 d2 d3)) (hx3 : RN x3 (q3 p0 p1 p2 p3 d0 d1 d2 d3))
    (hy0 : RN y0 (q0 a0 a1 a2 a3 r0 r1 r2 r3)) (hy1 : RN y1 (q1 a0 a1 a2 a3 r0 r1 r2 r3)) (hy2 : RN y2 (q2 a0 a1 a2 a3 r0 r1 r2 r3)) (hy3 : RN y3 (q3 a0 a1 a2 a3 r0 r1 r2 r3)) :
    (-5 ≤ x0 - y0 ∧ x0 - y0 ≤ 5) ∧ (-5 ≤ x1 - y1 ∧ x1 - y1 ≤ 5) ∧ (-5 ≤ x2 - y2 ∧ x2 - y2 ≤ 5) ∧ (-5 ≤ x3 - y3 ∧ x3 - y3 ≤ 5) := by
  refine ⟨?_, ?_, ?_, ?_⟩
  · have g := grp (x := x0) (by rw [show p0 * d0 + p1 * -d1 + p2 * -d2 + p3 * -d3 = q0 p0 p1 p2 p3 d0 d1 d2 d3 by unfold q0; grind]; exact hx0) hp0 hp1 hp2 hp3 gd0 gd1.neg gd2.neg gd3.neg
    have k := grp (x := y0) (by rw [show r0 * a0 + r1 * -a1 + r2 * -a2 + r3 * -a3 = q0 a0 a1 a2 a3 r0 r1 r2 r3 by unfold q0; grind]; exact hy0) hr0 hr1 hr2 hr3 ga0 ga1.neg ga2.neg ga3.neg
    have e : q0 a0 a1 a2 a3 b0 b1 b2 b3 * d0 + q1 a0 a1 a2 a3 b0 b1 b2 b3 * -d1 + q2 a0 a1 a2 a3 b0 b1 b2 b3 * -d2 + q3 a0 a1 a2 a3 b0 b1 b2 b3 * -d3 = q0 b0 b1 b2 b3 d0 d1 d2 d3 * a0 + q1 b0 b1 b2 b3 d0 d1 d2 d3 * -a1 + q2 b0 b1 b2 b3 d0 d1 d2 d3 * -a2 + q3 b0 b1 b2 b3 d0 d1 d2 d3 * -a3 := by
      unfold q0 q1 q2 q3; grind
    rw [e] at g
    omega
  · have g := grp (x := x1) (by rw [show p0 * d1 + p1 * d0 + p2 * d3 + p3 * -d2 = q1 p0 p1 p2 p3 d0 d1 d2 d3 by unfold q1; grind]; exact hx1) hp0 hp1 hp2 hp3 gd1 gd0 gd3 gd2.neg
    have k := grp (x := y1) (by rw [show r0 * a1 + r1 * a0 + r2 * -a3 + r3 * a2 = q1 a0 a1 a2 a3 r0 r1 r2 r3 by unfold q1; grind]; exact hy1) hr0 hr1 hr2 hr3 ga1 ga0 ga3.neg ga2
    have e : q0 a0 a1 a2 a3 b0 b1 b2 b3 * d1 + q1 a0 a1 a2 a3 b0 b1 b2 b3 * d0 + q2 a0 a1 a2 a3 b0 b1 b2 b3 * d3 + q3 a0 a1 a2 a3 b0 b1 b2 b3 * -d2 = q0 b0 b1 b2 b3 d0 d1 d2 d3 * a1 + q1 b0 b1 b2 b3 d0 d1 d2 d3 * a0 + q2 b0 b1 b2 b3 d0 d1 d2 d3 * -a3 + q3 b0 b1 b2 b3 d0 d1 d2 d3 * a2 := by
      unfold q0 q1 q2 q3; grind
    rw [e] at g
    omega
  · have g := grp (x := x2) (by rw [show p0 * d2 + p1 * -d3 + p2 * d0 + p3 * d1 = q2 p0 p1 p2 p3 d0 d1 d2 d3 by unfold q2; grind]; exact hx2) hp0 hp1 hp2 hp3 gd2 gd3.neg gd0 gd1
    have k := grp (x := y2) (by rw [show r0 * a2 + r1 * a3 + r2 * a0 + r3 * -a1 = q2 a0 a1 a2 a3 r0 r1 r2 r3 by unfold q2; grind]; exact hy2) hr0 hr1 hr2 hr3 ga2 ga3 ga0 ga1.neg
    have e : q0 a0 a1 a2 a3 b0 b1 b2 b3 * d2 + q1 a0 a1 a2 a3 b0 b1 b2 b3 * -d3 + q2 a0 a1 a2 a3 b0 b1 b2 b3 * d0 + q3 a0 a1 a2 a3 b0 b1 b2 b3 * d1 = q0 b0 b1 b2 b3 d0 d1 d2 d3 * a2 + q1 b0 b1 b2 b3 d0 d1 d2 d3 * a3 + q2 b0 b1 b2 b3 d0 d1 d2 d3 * a0 + q3 b0 b1 b2 b3 d0 d1 d2 d3 * -a1 := by
      unfold q0 q1 q2 q3; grind
    rw [e] at g
    omega
  · have g := grp (x := x3) (by rw [show p0 * d3 + p1 * d2 + p2 * -d1 + p3 * d0 = q3 p0 p1 p2 p3 d0 d1 d2 d3 by unfold q3; grind]; exact hx3) hp0 hp1 hp2 hp3 gd3 gd2 gd1.neg gd0
    have k := grp (x := y3) (by rw [show r0 * a3 + r1 * -a2 + r2 * a1 + r3 * a0 = q3 a0 a1 a2 a3 r0 r1 r2 r3 by unfold q3; grind]; exact hy3) hr0 hr1 hr2 hr3 ga3 ga2.neg ga1 ga0
    have e : q0 a0 a1 a2 a3 b0 b1 b2 b3 * d3 + q1 a0 a1 a2 a3 b0 b1 b2 b3 * d2 + q2 a0 a1 a2 a3 b0 b1 b2 b3 * -d1 + q3 a0 a1 a2 a3 b0 b1 b2 b3 * d0 = q0 b0 b1 b2 b3 d0 d1 d2 d3 * a3 + q1 b0 b1 b2 b3 d0 d1 d2 d3 * -a2 + q2 b0 b1 b2 b3 d0 d1 d2 d3 * a1 + q3 b0 b1 b2 b3 d0 d1 d2 d3 * a0 := by
      unfold q0 q1 q2 q3; grind
    rw [e] at g
    omega
/-- A product's length: four squares. -/
theorem prod_len {a0 a1 a2 a3 b0 b1 b2 b3 p0 p1 p2 p3 : Int} (ha : nearU (n4 a0 a1 a2 a3)) (hb : nearU (n4 b0 b1 b2 b3))
    (hp0 : RN p0 (q0 a0 a1 a2 a3 b0 b1 b2 b3)) (hp1 : RN p1 (q1 a0 a1 a2 a3 b0 b1 b2 b3)) (hp2 : RN p2 (q2 a0 a1 a2 a3 b0 b1 b2 b3)) (hp3 : RN p3 (q3 a0 a1 a2 a3 b0 b1 b2 b3)) :
    1152921504606846976 - 17179869184 ≤ n4 p0 p1 p2 p3 ∧ n4 p0 p1 p2 p3 ≤ 1152921504606846976 + 17179869184 := by
  have hq : n4 (q0 a0 a1 a2 a3 b0 b1 b2 b3) (q1 a0 a1 a2 a3 b0 b1 b2 b3) (q2 a0 a1 a2 a3 b0 b1 b2 b3) (q3 a0 a1 a2 a3 b0 b1 b2 b3) = n4 a0 a1 a2 a3 * n4 b0 b1 b2 b3 := by
    unfold n4 q0 q1 q2 q3; grind
  generalize q0 a0 a1 a2 a3 b0 b1 b2 b3 = w0 at *
  generalize q1 a0 a1 a2 a3 b0 b1 b2 b3 = w1 at *
  generalize q2 a0 a1 a2 a3 b0 b1 b2 b3 = w2 at *
  generalize q3 a0 a1 a2 a3 b0 b1 b2 b3 = w3 at *
  generalize n4 a0 a1 a2 a3 = U at *
  generalize n4 b0 b1 b2 b3 = V at *
  unfold nearU at ha hb
  have up : U * V ≤ 1152921508364943360 * 1152921508364943360 := Int.mul_le_mul (by omega) (by omega) (by omega) (by omega)
  have lo : 1152921500848750592 * 1152921500848750592 ≤ U * V := Int.mul_le_mul (by omega) (by omega) (by omega) (by omega)
  have s0 := sqN w0
  have s1 := sqN w1
  have s2 := sqN w2
  have s3 := sqN w3
  unfold n4 at *
  have bw : ∀ w : Int, w * w ≤ U * V → -1152921508364943360 ≤ w ∧ w ≤ 1152921508364943360 := by
    intro w hw
    constructor
    · rcases Int.lt_or_le w (-1152921508364943360) with g | g
      · exfalso
        have : 1152921508364943361 * 1152921508364943361 ≤ -w * -w := Int.mul_le_mul (by omega) (by omega) (by omega) (by omega)
        have e : -w * -w = w * w := by grind
        omega
      · exact g
    · rcases Int.lt_or_le 1152921508364943360 w with g | g
      · exfalso
        have : 1152921508364943361 * 1152921508364943361 ≤ w * w := Int.mul_le_mul (by omega) (by omega) (by omega) (by omega)
        omega
      · exact g
  have one_sq : ∀ p w : Int, RN p w → w * w ≤ U * V → 4 * (w * w) - 4951760173282422164092354560 ≤ 4611686018427387904 * (p * p) ∧ 4611686018427387904 * (p * p) ≤ 4 * (w * w) + 4951760173282422164092354560 + 1152921504606846976 := by
    intro p w hr hw
    have b := bw w hw
    have t := prod_lt (a := w) (b := 2 * (p * 1073741824 - w)) (k := 1152921508364943360) (l := 1073741824) (by unfold absV; split <;> omega) (by unfold RN at hr; unfold absV; split <;> omega)
    have z := one.mul (x := 2 * (p * 1073741824 - w)) (y := 2 * (p * 1073741824 - w)) hr hr
    have z0 := sqN (2 * (p * 1073741824 - w))
    have e : w * (2 * (p * 1073741824 - w)) = 2147483648 * (w * p) - 2 * (w * w) := by grind
    have e2 : 2 * (p * 1073741824 - w) * (2 * (p * 1073741824 - w)) = 4611686018427387904 * (p * p) - 8589934592 * (w * p) + 4 * (w * w) := by grind
    omega
  have k0 := one_sq p0 w0 hp0 (by omega)
  have k1 := one_sq p1 w1 hp1 (by omega)
  have k2 := one_sq p2 w2 hp2 (by omega)
  have k3 := one_sq p3 w3 hp3 (by omega)
  omega
end Go.Proofs.Ytaebmggjhjobnaa

/- Near of both answers' Units: its summary; the laws of chapter 6 see Units and products by name. -/
namespace Go.Proofs.Ytaebmggjhjobnaa
open Go.Lr
set_option linter.unusedVariables false
set_option linter.unusedSimpArgs false

def nk (a : Int) : Int := wr IntKind.i64 ((wr IntKind.i64 (a * a)).tdiv 4)
def nj (a : Int) : Int := (wr IntKind.i64 (a * a)).tmod 4
def nh1 (a0 : Int) : Int := wr IntKind.i64 (0 + nk a0)
def nh2 (a0 a1 : Int) : Int := wr IntKind.i64 (nh1 a0 + nk a1)
def nh3 (a0 a1 a2 : Int) : Int := wr IntKind.i64 (nh2 a0 a1 + nk a2)
def nh4 (a0 a1 a2 a3 : Int) : Int := wr IntKind.i64 (nh3 a0 a1 a2 + nk a3)
def nr4 (a0 a1 a2 a3 : Int) : Int := wr IntKind.i64 (wr IntKind.i64 (wr IntKind.i64 (wr IntKind.i64 (0 + nj a0) + nj a1) + nj a2) + nj a3)
def nd (a0 a1 a2 a3 : Int) : Int := wr IntKind.i64 (wr IntKind.i64 (4 * wr IntKind.i64 (nh4 a0 a1 a2 a3 - 288230376151711744)) + nr4 a0 a1 a2 a3)
theorem nk_eq {a : Int} (h : one a) : nk a = a * a / 4 ∧ nj a = a * a % 4 ∧ 0 ≤ a * a ∧ a * a ≤ 1152921504606846976 := by
  have m := h.mul h
  have p := sqN a
  unfold nk nj
  rw [wr_i, wr_i, w64_in (x := a * a) (by omega) (by omega), Int.tdiv_eq_ediv_of_nonneg p, Int.tmod_eq_emod_of_nonneg p, w64_in (by omega) (by omega)]
  exact ⟨rfl, rfl, p, m.2⟩
/-- What Near asks of a Unit. -/
theorem near_ok {a0 a1 a2 a3 : Int} (h0 : one a0) (h1 : one a1) (h2 : one a2) (h3 : one a3) (hn : nearU (n4 a0 a1 a2 a3)) :
    nh1 a0 ≤ 576460752303423488 ∧ nh2 a0 a1 ≤ 576460752303423488 ∧ nh3 a0 a1 a2 ≤ 576460752303423488 ∧ nh4 a0 a1 a2 a3 ≤ 576460752303423488 ∧ -4294967296 ≤ nd a0 a1 a2 a3 ∧ nd a0 a1 a2 a3 ≤ 4294967296 := by
  obtain ⟨k0, j0, l0, u0⟩ := nk_eq h0
  obtain ⟨k1, j1, l1, u1⟩ := nk_eq h1
  obtain ⟨k2, j2, l2, u2⟩ := nk_eq h2
  obtain ⟨k3, j3, l3, u3⟩ := nk_eq h3
  unfold nearU n4 at hn
  have e1 : nh1 a0 = a0 * a0 / 4 := by unfold nh1; rw [k0, wr_i, w64_in (by omega) (by omega)]; omega
  have e2 : nh2 a0 a1 = a0 * a0 / 4 + a1 * a1 / 4 := by unfold nh2; rw [e1, k1, wr_i, w64_in (by omega) (by omega)]
  have e3 : nh3 a0 a1 a2 = a0 * a0 / 4 + a1 * a1 / 4 + a2 * a2 / 4 := by unfold nh3; rw [e2, k2, wr_i, w64_in (by omega) (by omega)]
  have e4 : nh4 a0 a1 a2 a3 = a0 * a0 / 4 + a1 * a1 / 4 + a2 * a2 / 4 + a3 * a3 / 4 := by unfold nh4; rw [e3, k3, wr_i, w64_in (by omega) (by omega)]
  have er : nr4 a0 a1 a2 a3 = a0 * a0 % 4 + a1 * a1 % 4 + a2 * a2 % 4 + a3 * a3 % 4 := by
    unfold nr4
    rw [j0, j1, j2, j3, wr_i, wr_i, wr_i, wr_i, w64_in (x := 0 + a0 * a0 % 4) (by omega) (by omega), w64_in (x := 0 + a0 * a0 % 4 + a1 * a1 % 4) (by omega) (by omega), w64_in (x := 0 + a0 * a0 % 4 + a1 * a1 % 4 + a2 * a2 % 4) (by omega) (by omega), w64_in (by omega) (by omega)]
    omega
  have ed : nd a0 a1 a2 a3 = a0 * a0 + (a1 * a1 + (a2 * a2 + a3 * a3)) - 1152921504606846976 := by
    unfold nd
    rw [e4, er, wr_i, wr_i, wr_i, w64_in (x := a0 * a0 / 4 + a1 * a1 / 4 + a2 * a2 / 4 + a3 * a3 / 4 - 288230376151711744) (by omega) (by omega), w64_in (x := 4 * (a0 * a0 / 4 + a1 * a1 / 4 + a2 * a2 / 4 + a3 * a3 / 4 - 288230376151711744)) (by omega) (by omega), w64_in (by omega) (by omega)]
    omega
  rw [e1, e2, e3, e4, ed]
  omega
def one30 (a : Int) : Bool := decide (-1073741824 ≤ a) && decide (a ≤ 1073741824)
theorem one30_iff {a : Int} : one30 a = true ↔ one a := by unfold one30 one; simp
def nearB (a0 a1 a2 a3 : Int) : Bool := one30 a0 && (one30 a1 && (one30 a2 && (one30 a3 && (decide (-7516192768 ≤ 2 * (n4 a0 a1 a2 a3 - 1152921504606846976)) && decide (2 * (n4 a0 a1 a2 a3 - 1152921504606846976) ≤ 7516192768)))))
theorem nearB_iff {a0 a1 a2 a3 : Int} : nearB a0 a1 a2 a3 = true ↔ UnitQ a0 a1 a2 a3 := by
  unfold nearB
  simp only [Bool.and_eq_true, one30_iff, decide_eq_true_eq]
  constructor
  · rintro ⟨h0, h1, h2, h3, h4⟩; exact ⟨h0, h1, h2, h3, h4⟩
  · rintro ⟨h0, h1, h2, h3, h4⟩; exact ⟨h0, h1, h2, h3, h4⟩
def nearS : List LV → Option (LV × List (Bool × Bool))
  | [.v (.agg [.int .i64 a0, .int .i64 a1, .int .i64 a2, .int .i64 a3])] => some (B true, [(nearB a0 a1 a2 a3, true)])
  | _ => none
def unitN : List LV → Bool → Option (LV × Bool × List (Bool × Bool))
  | [.v (.agg [.int .i64 a0, .int .i64 a1, .int .i64 a2, .int .i64 a3])], hb => some (.v (.agg [.int .i64 (uV0 a0 a1 a2 a3), .int .i64 (uV1 a0 a1 a2 a3), .int .i64 (uV2 a0 a1 a2 a3), .int .i64 (uV3 a0 a1 a2 a3)]), uFl hb a0 a1 a2 a3, [])
  | _, _ => none
theorem sumUnitN : SumOK Try.prog 41 (accSum 25 unitN) := by
  refine sumpu.acc_re fun args hb v h' cs hF _ => ?_
  unfold unitN at hF
  split at hF
  · cases hF; exact ⟨[], rfl, ae_nil⟩
  · cases hF
def mulN : List LV → Bool → Option (LV × Bool × List (Bool × Bool))
  | [.v (.agg [.int .i64 a0, .int .i64 a1, .int .i64 a2, .int .i64 a3]), .v (.agg [.int .i64 b0, .int .i64 b1, .int .i64 b2, .int .i64 b3])], hb => some (.v (.agg [.int .i64 (mq0 a0 a1 a2 a3 b0 b1 b2 b3), .int .i64 (mq1 a0 a1 a2 a3 b0 b1 b2 b3), .int .i64 (mq2 a0 a1 a2 a3 b0 b1 b2 b3), .int .i64 (mq3 a0 a1 a2 a3 b0 b1 b2 b3)]), mulQH hb a0 a1 a2 a3 b0 b1 b2 b3, [])
  | _, _ => none
theorem sumMulN : SumOK Try.prog 40 (accSum 25 mulN) := by
  refine sumpm.acc_re fun args hb v h' cs hF _ => ?_
  unfold mulN at hF
  split at hF
  · cases hF; exact ⟨[], rfl, ae_nil⟩
  · cases hF
noncomputable def S45 : FuncId → Option SumK := more (more S41 41 (accSum 25 unitN)) 40 (accSum 25 mulN)
theorem sound45 : Sound Try.prog S45 := (sound41.more sumUnitN).more sumMulN
-- @@end
end Go.Proofs.Ytaebmggjhjobnaa

/- All summaries for the laws of chapter 7 about Units. -/
namespace Go.Proofs.Ytaebmggjhjobnaa
open Go.Lr
noncomputable def S46 : FuncId → Option SumK := more (more S44 41 (accSum 25 unitN)) 40 (accSum 25 mulN)
theorem sound46 : Sound Try.prog S46 := (sound44.more sumUnitN).more sumMulN
end Go.Proofs.Ytaebmggjhjobnaa

/- The matrices of Units: their entries. -/
namespace Go.Proofs.Ytaebmggjhjobnaa
open Go.Lr
set_option linter.unusedVariables false
set_option linter.unusedSimpArgs false

def rm0 (s0 s1 s2 s3 : Int) : Int := s1V 1 1 (-1) (-1) s0 s1 s2 s3
def rm1 (s0 s1 s2 s3 : Int) : Int := t1V s1 s2 (wr IntKind.i64 (0 - s0)) s3
def rm2 (s0 s1 s2 s3 : Int) : Int := t1V s1 s3 s0 s2
def rm3 (s0 s1 s2 s3 : Int) : Int := t1V s1 s2 s0 s3
def rm4 (s0 s1 s2 s3 : Int) : Int := s1V 1 (-1) 1 (-1) s0 s1 s2 s3
def rm5 (s0 s1 s2 s3 : Int) : Int := t1V s2 s3 (wr IntKind.i64 (0 - s0)) s1
def rm6 (s0 s1 s2 s3 : Int) : Int := t1V s1 s3 (wr IntKind.i64 (0 - s0)) s2
def rm7 (s0 s1 s2 s3 : Int) : Int := t1V s2 s3 s0 s1
def rm8 (s0 s1 s2 s3 : Int) : Int := s1V 1 (-1) (-1) 1 s0 s1 s2 s3
def rmF (h : Bool) (s0 s1 s2 s3 : Int) : Bool := h || s1H 1 1 (-1) (-1) s0 s1 s2 s3 || t1H s1 s2 (wr IntKind.i64 (0 - s0)) s3 || t1H s1 s3 s0 s2 || t1H s1 s2 s0 s3 || s1H 1 (-1) 1 (-1) s0 s1 s2 s3 || t1H s2 s3 (wr IntKind.i64 (0 - s0)) s1 || t1H s1 s3 (wr IntKind.i64 (0 - s0)) s2 || t1H s2 s3 s0 s1 || s1H 1 (-1) (-1) 1 s0 s1 s2 s3
def mx0 (s0 s1 s2 s3 : Int) : Int := s0 * s0 + s1 * s1 - s2 * s2 - s3 * s3
def mx1 (s0 s1 s2 s3 : Int) : Int := 2 * (s1 * s2) - 2 * (s0 * s3)
def mx2 (s0 s1 s2 s3 : Int) : Int := 2 * (s1 * s3) + 2 * (s0 * s2)
def mx3 (s0 s1 s2 s3 : Int) : Int := 2 * (s1 * s2) + 2 * (s0 * s3)
def mx4 (s0 s1 s2 s3 : Int) : Int := s0 * s0 - s1 * s1 + s2 * s2 - s3 * s3
def mx5 (s0 s1 s2 s3 : Int) : Int := 2 * (s2 * s3) - 2 * (s0 * s1)
def mx6 (s0 s1 s2 s3 : Int) : Int := 2 * (s1 * s3) - 2 * (s0 * s2)
def mx7 (s0 s1 s2 s3 : Int) : Int := 2 * (s2 * s3) + 2 * (s0 * s1)
def mx8 (s0 s1 s2 s3 : Int) : Int := s0 * s0 - s1 * s1 - s2 * s2 + s3 * s3
theorem rm_eq {s0 s1 s2 s3 : Int} (h0 : one s0) (h1 : one s1) (h2 : one s2) (h3 : one s3) :
    rm0 s0 s1 s2 s3 = rndV (mx0 s0 s1 s2 s3) 30 ∧ rm1 s0 s1 s2 s3 = rndV (mx1 s0 s1 s2 s3) 30 ∧ rm2 s0 s1 s2 s3 = rndV (mx2 s0 s1 s2 s3) 30 ∧ rm3 s0 s1 s2 s3 = rndV (mx3 s0 s1 s2 s3) 30 ∧ rm4 s0 s1 s2 s3 = rndV (mx4 s0 s1 s2 s3) 30 ∧ rm5 s0 s1 s2 s3 = rndV (mx5 s0 s1 s2 s3) 30 ∧ rm6 s0 s1 s2 s3 = rndV (mx6 s0 s1 s2 s3) 30 ∧ rm7 s0 s1 s2 s3 = rndV (mx7 s0 s1 s2 s3) 30 ∧ rm8 s0 s1 s2 s3 = rndV (mx8 s0 s1 s2 s3) 30 ∧ ∀ h, rmF h s0 s1 s2 s3 = h := by
  have w0 := wneg h0.sm.inS
  have e0 : s1V 1 1 (-1) (-1) s0 s1 s2 s3 = rndV (mx0 s0 s1 s2 s3) 30 ∧ s1H 1 1 (-1) (-1) s0 s1 s2 s3 = false := by
    unfold s1V s1H
    rw [wone h0.sm.inS, wone h1.sm.inS, wmone h2.sm.inS, wmone h3.sm.inS]
    exact dotO h0.sm h1.sm h2.sm h3.sm h0.sm h1.sm h2.sm.neg h3.sm.neg (by unfold mx0; grind)
  have e1 : t1V s1 s2 (wr IntKind.i64 (0 - s0)) s3 = rndV (mx1 s0 s1 s2 s3) 30 ∧ t1H s1 s2 (wr IntKind.i64 (0 - s0)) s3 = false := by
    unfold t1V t1H
    rw [w0]
    exact dotO h1.sm h1.sm h0.sm.neg h0.sm.neg h2.sm h2.sm h3.sm h3.sm (by unfold mx1; grind)
  have e2 : t1V s1 s3 s0 s2 = rndV (mx2 s0 s1 s2 s3) 30 ∧ t1H s1 s3 s0 s2 = false := by
    unfold t1V t1H
    exact dotO h1.sm h1.sm h0.sm h0.sm h3.sm h3.sm h2.sm h2.sm (by unfold mx2; grind)
  have e3 : t1V s1 s2 s0 s3 = rndV (mx3 s0 s1 s2 s3) 30 ∧ t1H s1 s2 s0 s3 = false := by
    unfold t1V t1H
    exact dotO h1.sm h1.sm h0.sm h0.sm h2.sm h2.sm h3.sm h3.sm (by unfold mx3; grind)
  have e4 : s1V 1 (-1) 1 (-1) s0 s1 s2 s3 = rndV (mx4 s0 s1 s2 s3) 30 ∧ s1H 1 (-1) 1 (-1) s0 s1 s2 s3 = false := by
    unfold s1V s1H
    rw [wone h0.sm.inS, wmone h1.sm.inS, wone h2.sm.inS, wmone h3.sm.inS]
    exact dotO h0.sm h1.sm h2.sm h3.sm h0.sm h1.sm.neg h2.sm h3.sm.neg (by unfold mx4; grind)
  have e5 : t1V s2 s3 (wr IntKind.i64 (0 - s0)) s1 = rndV (mx5 s0 s1 s2 s3) 30 ∧ t1H s2 s3 (wr IntKind.i64 (0 - s0)) s1 = false := by
    unfold t1V t1H
    rw [w0]
    exact dotO h2.sm h2.sm h0.sm.neg h0.sm.neg h3.sm h3.sm h1.sm h1.sm (by unfold mx5; grind)
  have e6 : t1V s1 s3 (wr IntKind.i64 (0 - s0)) s2 = rndV (mx6 s0 s1 s2 s3) 30 ∧ t1H s1 s3 (wr IntKind.i64 (0 - s0)) s2 = false := by
    unfold t1V t1H
    rw [w0]
    exact dotO h1.sm h1.sm h0.sm.neg h0.sm.neg h3.sm h3.sm h2.sm h2.sm (by unfold mx6; grind)
  have e7 : t1V s2 s3 s0 s1 = rndV (mx7 s0 s1 s2 s3) 30 ∧ t1H s2 s3 s0 s1 = false := by
    unfold t1V t1H
    exact dotO h2.sm h2.sm h0.sm h0.sm h3.sm h3.sm h1.sm h1.sm (by unfold mx7; grind)
  have e8 : s1V 1 (-1) (-1) 1 s0 s1 s2 s3 = rndV (mx8 s0 s1 s2 s3) 30 ∧ s1H 1 (-1) (-1) 1 s0 s1 s2 s3 = false := by
    unfold s1V s1H
    rw [wone h0.sm.inS, wmone h1.sm.inS, wmone h2.sm.inS, wone h3.sm.inS]
    exact dotO h0.sm h1.sm h2.sm h3.sm h0.sm h1.sm.neg h2.sm.neg h3.sm (by unfold mx8; grind)
  refine ⟨e0.1, e1.1, e2.1, e3.1, e4.1, e5.1, e6.1, e7.1, e8.1, fun h => ?_⟩
  unfold rmF
  rw [e0.2, e1.2, e2.2, e3.2, e4.2, e5.2, e6.2, e7.2, e8.2]
  simp
theorem mx_bd {s0 s1 s2 s3 : Int} (h0 : one s0) (h1 : one s1) (h2 : one s2) (h3 : one s3) : (-4611686018427387904 ≤ mx0 s0 s1 s2 s3 ∧ mx0 s0 s1 s2 s3 ≤ 4611686018427387904) ∧ (-4611686018427387904 ≤ mx1 s0 s1 s2 s3 ∧ mx1 s0 s1 s2 s3 ≤ 4611686018427387904) ∧ (-4611686018427387904 ≤ mx2 s0 s1 s2 s3 ∧ mx2 s0 s1 s2 s3 ≤ 4611686018427387904) ∧ (-4611686018427387904 ≤ mx3 s0 s1 s2 s3 ∧ mx3 s0 s1 s2 s3 ≤ 4611686018427387904) ∧ (-4611686018427387904 ≤ mx4 s0 s1 s2 s3 ∧ mx4 s0 s1 s2 s3 ≤ 4611686018427387904) ∧ (-4611686018427387904 ≤ mx5 s0 s1 s2 s3 ∧ mx5 s0 s1 s2 s3 ≤ 4611686018427387904) ∧ (-4611686018427387904 ≤ mx6 s0 s1 s2 s3 ∧ mx6 s0 s1 s2 s3 ≤ 4611686018427387904) ∧ (-4611686018427387904 ≤ mx7 s0 s1 s2 s3 ∧ mx7 s0 s1 s2 s3 ≤ 4611686018427387904) ∧ (-4611686018427387904 ≤ mx8 s0 s1 s2 s3 ∧ mx8 s0 s1 s2 s3 ≤ 4611686018427387904) := by
  have p00 := h0.mul h0
  have p01 := h0.mul h1
  have p02 := h0.mul h2
  have p03 := h0.mul h3
  have p11 := h1.mul h1
  have p12 := h1.mul h2
  have p13 := h1.mul h3
  have p22 := h2.mul h2
  have p23 := h2.mul h3
  have p33 := h3.mul h3
  unfold mx0 mx1 mx2 mx3 mx4 mx5 mx6 mx7 mx8
  refine ⟨?_, ?_, ?_, ?_, ?_, ?_, ?_, ?_, ?_⟩ <;> omega
theorem rn_sm {m w : Int} (h : RN m w) (h0 : -4611686018427387904 ≤ w ∧ w ≤ 4611686018427387904) : sm m := by unfold RN at h; unfold sm; omega
theorem dotO3 {x0 x1 x2 y0 y1 y2 w : Int} (a0 : sm x0) (a1 : sm x1) (a2 : sm x2) (b0 : sm y0) (b1 : sm y1) (b2 : sm y2) (hw : x0 * y0 + (x1 * y1 + x2 * y2) = w) :
    dotV 30 [x0, x1, x2] [y0, y1, y2] = rndV w 30 ∧ dotH 30 [x0, x1, x2] [y0, y1, y2] = false := by
  have m0 := a0.mul b0
  have m1 := a1.mul b1
  have m2 := a2.mul b2
  have e : dotS [x0, x1, x2] [y0, y1, y2] = w := by
    simp only [dotS]
    rw [a0.sat.1, a1.sat.1, a2.sat.1, b0.sat.1, b1.sat.1, b2.sat.1]
    omega
  have f : dotFl [x0, x1, x2] [y0, y1, y2] = false := by
    simp only [dotFl]
    rw [a0.sat.2, a1.sat.2, a2.sat.2, b0.sat.2, b1.sat.2, b2.sat.2]
    rfl
  obtain ⟨g1, g2⟩ := rs30 (w := w) (by omega) (by omega)
  refine ⟨?_, ?_⟩
  · show rndS (dotS [x0, x1, x2] [y0, y1, y2]) 30 = _; rw [e, g1]
  · show (dotFl [x0, x1, x2] [y0, y1, y2] || rndH (dotS [x0, x1, x2] [y0, y1, y2]) 30) = _; rw [e, f, g2]; rfl
/-- A product of two rounded numbers. -/
theorem rowt {m n M N : Int} (hm : RN m M) (hn : RN n N) (bM : -4611686018427387904 ≤ M ∧ M ≤ 4611686018427387904) (bN : -4611686018427387904 ≤ N ∧ N ≤ 4611686018427387904) :
    -19807040629719007258409009152 ≤ 4611686018427387904 * (m * n) - 4 * (M * N) ∧ 4611686018427387904 * (m * n) - 4 * (M * N) ≤ 19807040629719007258409009152 := by
  have e : 4611686018427387904 * (m * n) - 4 * (M * N) = 2 * (M * (2 * (n * 1073741824 - N))) + 2 * (N * (2 * (m * 1073741824 - M))) + 2 * (m * 1073741824 - M) * (2 * (n * 1073741824 - N)) := by grind
  have a := prod_lt (a := M) (b := 2 * (n * 1073741824 - N)) (k := 4611686018427387904) (l := 1073741824) (by unfold absV; split <;> omega) (by unfold RN at hn; unfold absV; split <;> omega)
  have b := prod_lt (a := N) (b := 2 * (m * 1073741824 - M)) (k := 4611686018427387904) (l := 1073741824) (by unfold absV; split <;> omega) (by unfold RN at hm; unfold absV; split <;> omega)
  have c := prod_lt (a := 2 * (m * 1073741824 - M)) (b := 2 * (n * 1073741824 - N)) (k := 1073741824) (l := 1073741824) (by unfold RN at hm; unfold absV; split <;> omega) (by unfold RN at hn; unfold absV; split <;> omega)
  rw [e]
  omega
-- @@end
end Go.Proofs.Ytaebmggjhjobnaa

/- All summaries for the laws about levels: headings of the second answer by name. -/
namespace Go.Proofs.Ytaebmggjhjobnaa
open Go.Lr
set_option linter.unusedVariables false
def fyA (a : Int) : Int := mulV (wrapV a) 536870912 30
def fy0 (a : Int) : Int := uV0 (cosV (fyA a)) 0 0 (sinV (fyA a))
def fy1 (a : Int) : Int := uV1 (cosV (fyA a)) 0 0 (sinV (fyA a))
def fy2 (a : Int) : Int := uV2 (cosV (fyA a)) 0 0 (sinV (fyA a))
def fy3 (a : Int) : Int := uV3 (cosV (fyA a)) 0 0 (sinV (fyA a))
def fyFl (hb : Bool) (a : Int) : Bool := uFl (sinH (fyA a) (cosH (fyA a) (hb || mulH (wrapV a) 536870912 30))) (cosV (fyA a)) 0 0 (sinV (fyA a))
def fyN : List LV → Bool → Option (LV × Bool × List (Bool × Bool))
  | [.v (.one (.int .i64 a))], hb => some (.v (.agg [.int .i64 (fy0 a), .int .i64 (fy1 a), .int .i64 (fy2 a), .int .i64 (fy3 a)]), fyFl hb a, [])
  | _, _ => none
theorem sumPfyN : SumOK Try.prog 32 (accSum 25 fyN) := by
  refine sumPfy.acc_re fun args hb v h' cs hF _ => ?_
  unfold fyN at hF
  split at hF
  · cases hF; exact ⟨[], rfl, ae_nil⟩
  · cases hF
/-- A matrix by its entries' names. -/
def ofN : List LV → Bool → Option (LV × Bool × List (Bool × Bool))
  | [.v (.agg [.int .i64 a0, .int .i64 a1, .int .i64 a2, .int .i64 a3])], hb => some (.v (.agg [.int .i64 (rm0 (satV a0) (satV a1) (satV a2) (satV a3)), .int .i64 (rm1 (satV a0) (satV a1) (satV a2) (satV a3)), .int .i64 (rm2 (satV a0) (satV a1) (satV a2) (satV a3)), .int .i64 (rm3 (satV a0) (satV a1) (satV a2) (satV a3)), .int .i64 (rm4 (satV a0) (satV a1) (satV a2) (satV a3)), .int .i64 (rm5 (satV a0) (satV a1) (satV a2) (satV a3)), .int .i64 (rm6 (satV a0) (satV a1) (satV a2) (satV a3)), .int .i64 (rm7 (satV a0) (satV a1) (satV a2) (satV a3)), .int .i64 (rm8 (satV a0) (satV a1) (satV a2) (satV a3))]), rmF (hb || satH a0 || satH a1 || satH a2 || satH a3) (satV a0) (satV a1) (satV a2) (satV a3), [])
  | _, _ => none
theorem sumOfN : SumOK Try.prog 37 (accSum 25 ofN) := by
  refine sumrof.acc_re fun args hb v h' cs hF _ => ?_
  unfold ofN at hF
  split at hF
  · cases hF; exact ⟨[], rfl, ae_nil⟩
  · cases hF
noncomputable def S47 : FuncId → Option SumK := more (more S46 37 (accSum 25 ofN)) 32 (accSum 25 fyN)
theorem sound47 : Sound Try.prog S47 := (sound46.more sumOfN).more sumPfyN
-- @@end
end Go.Proofs.Ytaebmggjhjobnaa

/- Levels: a heading's Unit has no second and third number; divisions by what is about One. -/
namespace Go.Proofs.Ytaebmggjhjobnaa
open Go.Lr
set_option linter.unusedVariables false
set_option linter.unusedSimpArgs false

theorem div_z (d : Int) : divPV 0 d 30 = 0 := by
  have e : pow2 (Int.toNat 30) = 1073741824 := rfl
  have s0 : satV 0 = 0 := by rw [sat_in (by omega) (by omega)]
  unfold divPV byV
  rw [if_neg (by decide), if_neg (by decide), e, s0, Int.zero_mul]
  by_cases h : satV d = 0
  · rw [if_pos h, if_pos rfl]
  · rw [if_neg h]
    unfold divV
    have : quoR (absV 0) (absV (satV d)) = 0 := by
      rw [show absV 0 = 0 from rfl]
      exact quoR_zero (by unfold absV; split <;> omega)
    rw [this]
    have g : ∀ b : Bool, sgn b 0 = 0 := by intro b; cases b <;> rfl
    rw [g, s0]
theorem unit_z (a d : Int) : uV1 a 0 0 d = 0 ∧ uV2 a 0 0 d = 0 := by
  have s0 : satV 0 = 0 := by rw [sat_in (by omega) (by omega)]
  unfold uV1 uV2 uE
  rw [s0, div_z, div_z]
  cases uZ a 0 0 d <;> exact ⟨rfl, rfl⟩
theorem fy_ok (a : Int) : UnitQ (fy0 a) 0 0 (fy3 a) ∧ fy1 a = 0 ∧ fy2 a = 0 := by
  have h := unit_ok (cosV (fyA a)) 0 0 (sinV (fyA a))
  have z := unit_z (cosV (fyA a)) (sinV (fyA a))
  rw [z.1, z.2] at h
  exact ⟨h, z.1, z.2⟩
/-- Divided by what is about One. -/
theorem dgen {v u : Int} (h0 : -1099511627776 ≤ v) (h1 : v ≤ 1099511627776) (h2 : 536870912 ≤ u) (h3 : u ≤ 2147483648) :
    (-u ≤ 2 * (divPV v u 30 * u - v * 1073741824) ∧ 2 * (divPV v u 30 * u - v * 1073741824) ≤ u) ∧ (-4398046511104 ≤ divPV v u 30 ∧ divPV v u 30 ≤ 4398046511104) ∧ divPH v u 30 = false := by
  have key : ∀ w : Int, 0 ≤ w → -u ≤ 2 * (divV (w * 1073741824) u * u - w * 1073741824) ∧ 2 * (divV (w * 1073741824) u * u - w * 1073741824) ≤ u := by
    intro w w0
    rw [div_pos (a := w * 1073741824) (b := u) (by omega) (by omega)]
    exact quo_bd (by omega) (by omega)
  have odd : ∀ w : Int, divV (-w) u = -divV w u := by
    intro w
    unfold divV
    rw [absV_negate]
    have hu : decide (u < 0) = false := by simp; omega
    rw [hu]
    by_cases g0 : w = 0
    · subst g0
      have : quoR (absV 0) (absV u) = 0 := by
        rw [show absV 0 = 0 from rfl]
        exact quoR_zero (by unfold absV; split <;> omega)
      rw [this]; rfl
    · by_cases g1 : w < 0
      · have e1 : decide (w < 0) = true := by simpa using g1
        have e2 : decide (-w < 0) = false := by simp; omega
        rw [e1, e2]; unfold sgn; simp
      · have e1 : decide (w < 0) = false := by simp; omega
        have e2 : decide (-w < 0) = true := by simp; omega
        rw [e1, e2]; unfold sgn; simp
  have hd : -u ≤ 2 * (divV (v * 1073741824) u * u - v * 1073741824) ∧ 2 * (divV (v * 1073741824) u * u - v * 1073741824) ≤ u := by
    by_cases h : 0 ≤ v
    · exact key v h
    · have k := key (-v) (by omega)
      rw [show -v * 1073741824 = -(v * 1073741824) by omega, odd, Int.neg_mul] at k
      omega
  have e : pow2 (Int.toNat 30) = 1073741824 := rfl
  have hb : -4398046511104 ≤ divV (v * 1073741824) u ∧ divV (v * 1073741824) u ≤ 4398046511104 := by
    generalize divV (v * 1073741824) u = t at *
    constructor
    · rcases Int.lt_or_le t (-4398046511104) with h | h
      · exfalso
        have : t * u ≤ -4398046511105 * u := Int.mul_le_mul_of_nonneg_right (by omega) (by omega)
        omega
      · exact h
    · rcases Int.lt_or_le 4398046511104 t with h | h
      · exfalso
        have : 4398046511105 * u ≤ t * u := Int.mul_le_mul_of_nonneg_right (by omega) (by omega)
        omega
      · exact h
  have ev : divPV v u 30 = divV (v * 1073741824) u := by
    unfold divPV byV
    rw [if_neg (by decide), if_neg (by decide), e, sat_in (a := v) (by omega) (by omega), sat_in (a := u) (by omega) (by omega), if_neg (by omega), sat_in (by omega) (by omega)]
  refine ⟨by rw [ev]; exact hd, by rw [ev]; exact hb, ?_⟩
  unfold divPH byH
  rw [e, sat_in (a := v) (by omega) (by omega), sat_in (a := u) (by omega) (by omega), satH_in (a := v) (by omega) (by omega), satH_in (a := u) (by omega) (by omega), satH_in (a := divV (v * 1073741824) u) (by omega) (by omega)]
  have : (u == 0) = false := by simp; omega
  rw [this]; rfl
/-- A level's matrix: its last entry is about One. -/
theorem lev8 {a d : Int} (h : UnitQ a 0 0 d) : 1073741820 ≤ rm8 a 0 0 d ∧ rm8 a 0 0 d ≤ 1073741828 := by
  obtain ⟨-, -, -, -, -, -, -, -, e8, -⟩ := rm_eq h.ha h.hb h.hc h.hd
  rw [e8]
  have r := rn_rnd (mx8 a 0 0 d)
  have hn := h.hn
  unfold nearU n4 at hn
  unfold RN at r
  generalize rndV (mx8 a 0 0 d) 30 = k at *
  unfold mx8 at r
  omega
/-- Sums, differences, products of middling numbers. -/
theorem add_mid {a b : Int} (a0 : -18014398509481984 ≤ a ∧ a ≤ 18014398509481984) (b0 : -18014398509481984 ≤ b ∧ b ≤ 18014398509481984) : faddV [a, b] = a + b ∧ faddH [a, b] = false := by
  unfold faddV faddH
  simp only [sumS, anyH]
  rw [sat_in (a := a) (by omega) (by omega), sat_in (a := b) (by omega) (by omega), satH_in (a := a) (by omega) (by omega), satH_in (a := b) (by omega) (by omega), sat_in (by omega) (by omega), satH_in (by omega) (by omega)]
  exact ⟨by omega, rfl⟩
theorem sub_mid {a b : Int} (a0 : -18014398509481984 ≤ a ∧ a ≤ 18014398509481984) (b0 : -18014398509481984 ≤ b ∧ b ≤ 18014398509481984) : subV a b = a - b ∧ subH a b = false := by
  unfold subV subH
  rw [sat_in (a := a) (by omega) (by omega), sat_in (a := b) (by omega) (by omega), satH_in (a := a) (by omega) (by omega), satH_in (a := b) (by omega) (by omega), sat_in (by omega) (by omega), satH_in (by omega) (by omega)]
  exact ⟨rfl, rfl⟩
theorem mul_mid {a b : Int} (a0 : -281474976710656 ≤ a ∧ a ≤ 281474976710656) (b0 : -4294967296 ≤ b ∧ b ≤ 4294967296) : mulV a b 30 = rndV (a * b) 30 ∧ mulH a b 30 = false := by
  have p := prod_lt (a := a) (b := b) (k := 281474976710656) (l := 4294967296) (by unfold absV; split <;> omega) (by unfold absV; split <;> omega)
  obtain ⟨g1, g2⟩ := rs30 (w := a * b) (by omega) (by omega)
  unfold mulV mulH
  rw [sat_in (a := a) (by omega) (by omega), sat_in (a := b) (by omega) (by omega), satH_in (a := a) (by omega) (by omega), satH_in (a := b) (by omega) (by omega), g1, g2]
  exact ⟨rfl, rfl⟩
theorem wneg_mid {a : Int} (a0 : -18014398509481984 ≤ a ∧ a ≤ 18014398509481984) : wr IntKind.i64 (0 - a) = -a := wneg ⟨by omega, by omega⟩
-- @@end
end Go.Proofs.Ytaebmggjhjobnaa

/- Directions: a Unit's; of twice an angle; headings in plain numbers. -/
namespace Go.Proofs.Ytaebmggjhjobnaa
open Go.Lr Go.Tg
set_option linter.unusedVariables false
set_option linter.unusedSimpArgs false

/-- Cauchy's inequality, as it is used. -/
theorem cs_le {x y c s A : Int} (hA : 0 ≤ A) (h : (x * x + y * y) * (c * c + s * s) ≤ A * A) : nb (x * c + y * s) A := by
  have e : (x * c + y * s) * (x * c + y * s) + (y * c - x * s) * (y * c - x * s) = (x * x + y * y) * (c * c + s * s) := by grind
  have q : 0 ≤ (y * c - x * s) * (y * c - x * s) := by
    rcases Int.le_total 0 (y * c - x * s) with k | k
    · exact Int.mul_nonneg k k
    · exact Int.mul_nonneg_of_nonpos_of_nonpos k k
  generalize x * c + y * s = D at *
  generalize (y * c - x * s) * (y * c - x * s) = Q at *
  constructor
  · rcases Int.le_total 0 D with k | k
    · omega
    · have := sq_bound (D := -D) (A := A) (by omega) hA (by rw [Int.neg_mul_neg]; omega)
      omega
  · rcases Int.le_total 0 D with k | k
    · exact sq_bound k hA (by omega)
    · omega
theorem big_sideP {s k : Int} (h : 1000000000000000000 ≤ k * k + s * s) : 700000000 ≤ mxB s k := by
  have hu : s * s ≤ mxB s k * mxB s k ∧ k * k ≤ mxB s k * mxB s k ∧ 0 ≤ mxB s k := by
    rw [← absSq s, ← absSq k]
    have a0 : 0 ≤ absV s := by unfold absV; split <;> omega
    have b0 : 0 ≤ absV k := by unfold absV; split <;> omega
    unfold mxB
    split
    · exact ⟨Int.mul_le_mul (by omega) (by omega) a0 (by omega), Int.le_refl _, b0⟩
    · exact ⟨Int.le_refl _, Int.mul_le_mul (by omega) (by omega) b0 (by omega), a0⟩
  generalize mxB s k = u at *
  rcases Int.lt_or_le u 700000000 with g | g
  · exfalso
    have : u * u ≤ 699999999 * 699999999 := Int.mul_le_mul (by omega) (by omega) hu.2.2 (by omega)
    omega
  · exact g
/-- A point near the circle that lies in the direction of an angle has that angle. -/
theorem dir_ang {a y x E K w0 : Int} (hP : nb (x * x + y * y - 1152921504606846976) 11529215046068469) (hx : nb x 1085000000) (hy : nb y 1085000000)
    (hc : nb (y * CG a - x * SG a) (E * 1073741824)) (hd : 0 < x * CG a + y * SG a) (hE0 : 0 ≤ E) (hE : E ≤ 1000000) (hK : 120 + 2 * E ≤ K) (e : SG w0 = w0) (h0 : 0 ≤ w0) (h1 : w0 ≤ 1686629713) (hw : K + 64 < w0) :
    nb (wrapV (atanV y x - a)) w0 := by
  have oc := on_circle a
  have hne : y ≠ 0 ∨ x ≠ 0 := by
    rcases Int.lt_trichotomy y 0 with k | k | k
    · exact .inl (by omega)
    · rcases Int.lt_trichotomy x 0 with l | l | l
      · exact .inr (by omega)
      · exfalso; rw [k, l] at hP; unfold nb at hP; omega
      · exact .inr (by omega)
    · exact .inl (by omega)
  obtain ⟨d1, d2⟩ := atan_dir (hy.le (by omega)) (hx.le (by omega)) hne
  have or' := on_circle (atanV y x)
  have hu : 700000000 ≤ mxB y x ∧ mxB y x ≤ 1079110600 := by
    have hu0 := (mB_bd (y := y) (x := x) (hy.le (by omega)) (hx.le (by omega)) hne).2.2.1
    have hb := big_sideP (s := y) (k := x) (by unfold nb at hP; omega)
    refine ⟨hb, ?_⟩
    have : mxB y x * mxB y x = x * x ∨ mxB y x * mxB y x = y * y := by
      unfold mxB; split
      · left; exact absSq x
      · right; exact absSq y
    have qx : 0 ≤ x * x := sqnn0 x
    have qy : 0 ≤ y * y := sqnn0 y
    generalize mxB y x = u at *
    rcases Int.lt_or_le 1079110600 u with g | g
    · exfalso
      have : 1079110601 * 1079110601 ≤ u * u := Int.mul_le_mul (by omega) (by omega) (by omega) (by omega)
      unfold nb at hP; omega
    · exact g
  obtain ⟨f1, f2⟩ := dif_all a (atanV y x)
  obtain ⟨b0, b1, -⟩ := wrap_spec (atanV y x - a)
  have es : SG (wrapV (atanV y x - a)) = -SG (a - atanV y x) := by rw [SG_wrap, ← SG_neg]; congr 1; omega
  have ec : CG (wrapV (atanV y x - a)) = CG (a - atanV y x) := by rw [CG_wrap, ← CG_neg]; congr 1; omega
  generalize wrapV (atanV y x - a) = w at *
  generalize atanV y x = r at *
  generalize mxB y x = u at *
  have P1 : (x * x + y * y) * (CG a * CG a + SG a * SG a) ≤ 1158671800000000000 * 1158671800000000000 := by
    have := Int.mul_le_mul (show x * x + y * y ≤ 1164450719652915446 by unfold nb at hP; omega) (show CG a * CG a + SG a * SG a ≤ 1152921534671618048 by unfold nb at oc; omega) (by unfold nb at oc; omega) (by omega)
    omega
  have P2 : (x * x + y * y) * (CG r * CG r + SG r * SG r) ≤ 1158671800000000000 * 1158671800000000000 := by
    have := Int.mul_le_mul (show x * x + y * y ≤ 1164450719652915446 by unfold nb at hP; omega) (show CG r * CG r + SG r * SG r ≤ 1152921534671618048 by unfold nb at or'; omega) (by unfold nb at or'; omega) (by omega)
    omega
  have c1 := cs_le (by omega) P1
  have c2 := cs_le (by omega) P2
  have i1 : (x * x + y * y) * (SG a * CG r - CG a * SG r) = (x * CG a + y * SG a) * (y * CG r - x * SG r) - (y * CG a - x * SG a) * (x * CG r + y * SG r) := by grind
  have i2 : (x * x + y * y) * (CG a * CG r + SG a * SG r) = (x * CG a + y * SG a) * (x * CG r + y * SG r) + (y * CG a - x * SG a) * (y * CG r - x * SG r) := by grind
  have m1 := c1.mul (d1.le (show 81 * u ≤ 87407958600 by omega))
  have m2 := hc.mul c2
  have m3 := hc.mul (d1.le (show 81 * u ≤ 87407958600 by omega))
  have ee : E * 1073741824 * 1158671800000000000 = 1244114371949363200000000000 * E := by grind
  rw [ee] at m2
  have m3' : nb ((y * CG a - x * SG a) * (y * CG r - x * SG r)) (1000000 * 1073741824 * 87407958600) := m3.le (Int.mul_le_mul_of_nonneg_right (Int.mul_le_mul_of_nonneg_right hE (by omega)) (by omega))
  have X0 : nb (SG a * CG r - CG a * SG r) ((92 + 2 * E) * 1073741824) := by
    generalize SG a * CG r - CG a * SG r = X at *
    generalize (x * CG a + y * SG a) * (y * CG r - x * SG r) = A at *
    generalize (y * CG a - x * SG a) * (x * CG r + y * SG r) = B at *
    have p0 : 1141392289560778507 ≤ x * x + y * y := by unfold nb at hP; omega
    generalize x * x + y * y = P at *
    constructor
    · rcases Int.lt_or_le X (-((92 + 2 * E) * 1073741824)) with g | g
      · exfalso
        have k1 : P * X ≤ 1141392289560778507 * X := by
          have := Int.mul_le_mul_of_nonpos_right p0 (show X ≤ 0 by omega)
          omega
        unfold nb at m1 m2
        omega
      · exact g
    · rcases Int.lt_or_le ((92 + 2 * E) * 1073741824) X with g | g
      · exfalso
        have k1 : 1141392289560778507 * X ≤ P * X := Int.mul_le_mul_of_nonneg_right p0 (by omega)
        unfold nb at m1 m2
        omega
      · exact g
  refine ang_small (K := K) (w0 := w0) (by unfold nb; omega) ?_ ?_ e h0 h1 hw
  · rw [ec]
    have d3 : 0 < x * CG r + y * SG r := by omega
    -- the dot's square is nearly all
    have hsq : (x * CG a + y * SG a) * (x * CG a + y * SG a) + (y * CG a - x * SG a) * (y * CG a - x * SG a) = (x * x + y * y) * (CG a * CG a + SG a * SG a) := by grind
    have m4 := hc.mul hc
    have m4' : nb ((y * CG a - x * SG a) * (y * CG a - x * SG a)) (1000000 * 1073741824 * (1000000 * 1073741824)) := m4.le (by
      have : E * 1073741824 ≤ 1000000 * 1073741824 := by omega
      exact Int.mul_le_mul this this (by omega) (by omega))
    have P3 : 1141392289560778507 * 1152921474542075904 ≤ (x * x + y * y) * (CG a * CG a + SG a * SG a) := Int.mul_le_mul (by unfold nb at hP; omega) (by unfold nb at oc; omega) (by omega) (by unfold nb at hP; omega)
    have big : 1000000000000000000 ≤ x * CG a + y * SG a := by
      generalize x * CG a + y * SG a = D at *
      generalize (y * CG a - x * SG a) * (y * CG a - x * SG a) = Q at *
      rcases Int.lt_or_le D 1000000000000000000 with g | g
      · exfalso
        have : D * D ≤ 1000000000000000000 * 1000000000000000000 := Int.mul_le_mul (by omega) (by omega) (by omega) (by omega)
        unfold nb at m4'; omega
      · exact g
    have big2 : 600000000 * 700000000 ≤ x * CG r + y * SG r := by
      omega
    have m5 := Int.mul_le_mul big big2 (by omega) (by omega)
    rcases Int.lt_or_le 0 (CG (a - r)) with g | g
    · exact g
    · exfalso
      have k2 : CG a * CG r + SG a * SG r ≤ 30064771072 := by unfold nb at f1; omega
      have k3 : (x * x + y * y) * (CG a * CG r + SG a * SG r) ≤ (x * x + y * y) * 30064771072 := Int.mul_le_mul_of_nonneg_left k2 (by unfold nb at hP; omega)
      unfold nb at m3' hP
      generalize (x * CG a + y * SG a) * (x * CG r + y * SG r) = A at *
      generalize (y * CG a - x * SG a) * (y * CG r - x * SG r) = B at *
      omega
  · rw [es]
    refine nb.neg ?_
    unfold nb at f2 X0 ⊢
    omega
/-- A number rounded at the thirtieth place. -/
theorem rn30 (w : Int) : nb (2 * (rndV w 30 * 1073741824 - w)) 1073741824 := by
  have h := rnd_bd w 30
  rw [show pow2 30 = 1073741824 from rfl] at h
  exact h
/-- The heading of a level body whose half angle's direction is h. -/
theorem yaw_core {h f0 f3 x y : Int} (o0 : nb f0 1073741824) (o3 : nb f3 1073741824) (hn : nb (f0 * f0 + f3 * f3 - 1152921504606846976) 4294967296) (hc : nb (f3 * CG h - f0 * SG h) 5368709120)
    (ry : nb (2 * (y * 1073741824 - 2 * (f0 * f3))) 1073741824) (rx : nb (2 * (x * 1073741824 - (f0 * f0 - f3 * f3))) 1073741824) : nb (wrapV (atanV y x - 2 * h)) 330 := by
  have oc := on_circle h
  have oc2 := on_circle (2 * h)
  obtain ⟨s1, s2⟩ := sum_all h h
  rw [show h + h = 2 * h by omega] at s1 s2
  have p00 := (o0.mul o0)
  have p33 := (o3.mul o3)
  have p03 := (o0.mul o3)
  have q00 := sqnn0 f0
  have q33 := sqnn0 f3
  have hx : nb x 1073741826 := by
    unfold nb at *
    generalize f0 * f0 = A at *
    generalize f3 * f3 = B at *
    omega
  have hYY : nb (2 * (f0 * f3)) 1152921508901814272 := by
    have a1 : 0 ≤ (f0 - f3) * (f0 - f3) := sqnn0 _
    have a2 : 0 ≤ (f0 + f3) * (f0 + f3) := sqnn0 _
    have b1 : (f0 - f3) * (f0 - f3) = f0 * f0 - 2 * (f0 * f3) + f3 * f3 := by grind
    have b2 : (f0 + f3) * (f0 + f3) = f0 * f0 + 2 * (f0 * f3) + f3 * f3 := by grind
    unfold nb at *
    generalize f0 * f0 = A at *
    generalize f3 * f3 = B at *
    generalize f0 * f3 = C at *
    omega
  have hy : nb y 1073741830 := by
    unfold nb at *
    generalize f0 * f3 = C at *
    omega
  -- the point's length
  have id1 : (f0 * f0 - f3 * f3) * (f0 * f0 - f3 * f3) + 2 * (f0 * f3) * (2 * (f0 * f3)) = (f0 * f0 + f3 * f3) * (f0 * f0 + f3 * f3) := by grind
  have hXX : nb (f0 * f0 - f3 * f3) 1152921508901814272 := by
    unfold nb at *
    generalize f0 * f0 = A at *
    generalize f3 * f3 = B at *
    omega
  have hNN := hn.mul hn
  have e1 : 1152921504606846976 * (x * x + y * y - 1152921504606846976) = ((f0 * f0 + f3 * f3) * (f0 * f0 + f3 * f3) - 1152921504606846976 * 1152921504606846976)
      + (f0 * f0 - f3 * f3) * (2 * (x * 1073741824 - (f0 * f0 - f3 * f3))) + 2 * (f0 * f3) * (2 * (y * 1073741824 - 2 * (f0 * f3)))
      + (x * 1073741824 - (f0 * f0 - f3 * f3)) * (x * 1073741824 - (f0 * f0 - f3 * f3)) + (y * 1073741824 - 2 * (f0 * f3)) * (y * 1073741824 - 2 * (f0 * f3)) := by rw [← id1]; grind
  have e2 : (f0 * f0 + f3 * f3) * (f0 * f0 + f3 * f3) - 1152921504606846976 * 1152921504606846976 = (f0 * f0 + f3 * f3 - 1152921504606846976) * (f0 * f0 + f3 * f3 - 1152921504606846976) + 2305843009213693952 * (f0 * f0 + f3 * f3 - 1152921504606846976) := by grind
  have k1 := hXX.mul rx
  have k2 := hYY.mul ry
  have rx1 : nb (x * 1073741824 - (f0 * f0 - f3 * f3)) 536870912 := by unfold nb at *; omega
  have ry1 : nb (y * 1073741824 - 2 * (f0 * f3)) 536870912 := by unfold nb at *; omega
  have k3 := rx1.mul rx1
  have k4 := ry1.mul ry1
  have hP : nb (x * x + y * y - 1152921504606846976) 11529215046068469 := by
    rw [e2] at e1
    generalize x * x + y * y - 1152921504606846976 = P at *
    generalize (f0 * f0 + f3 * f3 - 1152921504606846976) * (f0 * f0 + f3 * f3 - 1152921504606846976) = N1 at *
    generalize f0 * f0 + f3 * f3 - 1152921504606846976 = N2 at *
    generalize (f0 * f0 - f3 * f3) * (2 * (x * 1073741824 - (f0 * f0 - f3 * f3))) = A1 at *
    generalize 2 * (f0 * f3) * (2 * (y * 1073741824 - 2 * (f0 * f3))) = A2 at *
    generalize (x * 1073741824 - (f0 * f0 - f3 * f3)) * (x * 1073741824 - (f0 * f0 - f3 * f3)) = A3 at *
    generalize (y * 1073741824 - 2 * (f0 * f3)) * (y * 1073741824 - 2 * (f0 * f3)) = A4 at *
    unfold nb at *
    omega
  -- across
  generalize hC2 : CG (2 * h) = C2 at *
  generalize hS2 : SG (2 * h) = S2 at *
  have cb := CG_bd h
  have sb := SG_bd h
  have c2b : nb C2 1073741824 := by rw [← hC2]; exact CG_bd _
  have s2b : nb S2 1073741824 := by rw [← hS2]; exact SG_bd _
  have dn : nb (f0 * CG h + f3 * SG h) 1152921526081683456 := by
    refine cs_le (by omega) ?_
    have := Int.mul_le_mul (show f0 * f0 + f3 * f3 ≤ 1152921508901814272 by unfold nb at hn; omega) (show CG h * CG h + SG h * SG h ≤ 1152921534671618048 by unfold nb at oc; omega) (by unfold nb at oc; omega) (by omega)
    omega
  generalize CG h = c at *
  generalize SG h = s at *
  have j1 := dn.mul hc
  have j2 := ry.mul c2b
  have j3 := rx.mul s2b
  have j4 := hYY.mul s1
  have j5 := hXX.mul s2
  have i1 : 1073741824 * (1073741824 * (y * C2 - x * S2)) = 2 * ((f0 * c + f3 * s) * (f3 * c - f0 * s)) - 2 * (f0 * f3) * (c * c - s * s - 1073741824 * C2) + (f0 * f0 - f3 * f3) * (s * c + c * s - 1073741824 * S2)
      + 536870912 * (2 * (y * 1073741824 - 2 * (f0 * f3)) * C2) - 536870912 * (2 * (x * 1073741824 - (f0 * f0 - f3 * f3)) * S2) := by grind
  have hcross : nb (y * C2 - x * S2) (68 * 1073741824) := by
    generalize (f0 * c + f3 * s) * (f3 * c - f0 * s) = B1 at *
    generalize 2 * (f0 * f3) * (c * c - s * s - 1073741824 * C2) = B2 at *
    generalize (f0 * f0 - f3 * f3) * (s * c + c * s - 1073741824 * S2) = B3 at *
    generalize 2 * (y * 1073741824 - 2 * (f0 * f3)) * C2 = B4 at *
    generalize 2 * (x * 1073741824 - (f0 * f0 - f3 * f3)) * S2 = B5 at *
    generalize y * C2 - x * S2 = X at *
    unfold nb at *
    omega
  -- ahead
  have l1 := hXX.mul s1
  have l2 := hYY.mul s2
  have l3 := rx.mul c2b
  have l4 := ry.mul s2b
  have i2 : 1073741824 * (1073741824 * (x * C2 + y * S2)) = (f0 * c + f3 * s) * (f0 * c + f3 * s) - (f3 * c - f0 * s) * (f3 * c - f0 * s) - (f0 * f0 - f3 * f3) * (c * c - s * s - 1073741824 * C2) - 2 * (f0 * f3) * (s * c + c * s - 1073741824 * S2)
      + 536870912 * (2 * (x * 1073741824 - (f0 * f0 - f3 * f3)) * C2) + 536870912 * (2 * (y * 1073741824 - 2 * (f0 * f3)) * S2) := by grind
  have i3 : (f0 * c + f3 * s) * (f0 * c + f3 * s) + (f3 * c - f0 * s) * (f3 * c - f0 * s) = (f0 * f0 + f3 * f3) * (c * c + s * s) := by grind
  have l5 : 1152921500000000000 * 1152921400000000000 ≤ (f0 * f0 + f3 * f3) * (c * c + s * s) := Int.mul_le_mul (by unfold nb at hn; omega) (by unfold nb at oc; omega) (by omega) (by unfold nb at hn; omega)
  have l6 := hc.mul hc
  have hdot : 0 < x * C2 + y * S2 := by
    generalize (f0 * c + f3 * s) * (f0 * c + f3 * s) = B1 at *
    generalize (f3 * c - f0 * s) * (f3 * c - f0 * s) = B2 at *
    generalize (f0 * f0 - f3 * f3) * (c * c - s * s - 1073741824 * C2) = B3 at *
    generalize 2 * (f0 * f3) * (s * c + c * s - 1073741824 * S2) = B4 at *
    generalize 2 * (x * 1073741824 - (f0 * f0 - f3 * f3)) * C2 = B5 at *
    generalize 2 * (y * 1073741824 - 2 * (f0 * f3)) * S2 = B6 at *
    generalize x * C2 + y * S2 = X at *
    unfold nb at *
    omega
  subst hC2 hS2
  exact dir_ang (K := 256) (E := 68) (a := 2 * h) hP (hx.le (by omega)) (hy.le (by omega)) hcross hdot (by omega) (by omega) (by omega) (by decide +kernel) (by omega) (by omega) (by omega)
/-- Dividing by what is not less. -/
theorem dsign {v u : Int} (h0 : v ≤ u) (h1 : -v ≤ u) (hu : 1 ≤ u) (hu1 : u ≤ 1152921504606846976) : nb (2 * (divPV v u 30 * u - v * 1073741824)) u ∧ nb (divPV v u 30) 1073741824 ∧ divPH v u 30 = false ∧ (0 ≤ v → 0 ≤ divPV v u 30) ∧ (v ≤ 0 → divPV v u 30 ≤ 0) := by
  obtain ⟨d1, d2, d3⟩ := dpass h0 h1 hu hu1
  refine ⟨d1, d2, d3, ?_, ?_⟩
  · intro hv
    rcases Int.lt_or_le (divPV v u 30) 0 with g | g
    · exfalso
      have : divPV v u 30 * u ≤ -1 * u := Int.mul_le_mul_of_nonneg_right (by omega) (by omega)
      omega
    · exact g
  · intro hv
    rcases Int.lt_or_le 0 (divPV v u 30) with g | g
    · exfalso
      have : 1 * u ≤ divPV v u 30 * u := Int.mul_le_mul_of_nonneg_right (by omega) (by omega)
      omega
    · exact g
/-- A Unit of two numbers keeps their direction. -/
theorem unit_dir {a d : Int} (ha : nb a 1084000000) (hd : nb d 1084000000) (h0 : 1 ≤ a * a + d * d) (h1 : a * a + d * d ≤ 1175979000000000000) :
    nb (uV3 a 0 0 d * a - uV0 a 0 0 d * d) 2684354560 ∧ 0 ≤ uV0 a 0 0 d * a ∧ 0 ≤ uV3 a 0 0 d * d := by
  have ia : inS a := by unfold nb at ha; unfold inS; omega
  have id : inS d := by unfold nb at hd; unfold inS; omega
  have i0 : inS 0 := by unfold inS; omega
  have en : n4 a 0 0 d = a * a + d * d := by unfold n4; omega
  have hz : uZ a 0 0 d = false := by
    rcases bool_cases (uZ a 0 0 d) with g | g
    · exfalso
      unfold uZ at g
      rw [sat_in ia.1 ia.2, sat_in id.1 id.2] at g
      simp only [Bool.and_eq_true, Bool.and_true, beq_iff_eq] at g
      obtain ⟨e0, -, -, e3⟩ := g
      subst e0 e3
      omega
    · exact g
  unfold uV0 uV3
  rw [cond_f hz, cond_f hz, sat_in ia.1 ia.2, sat_in id.1 id.2, sat_in i0.1 i0.2]
  unfold uE
  obtain ⟨m0, mA, mB, mC, mD, m1, -⟩ := hyp4 ia i0 i0 id (by rw [en]; exact h0)
  have p1 := pass1 m0.1 m0.2 mA mB mC mD m1
  obtain ⟨a1, a2, -, a3, a4⟩ := dsign mA.1 mA.2 m0.1 m0.2
  obtain ⟨d1, d2, -, d3, d4⟩ := dsign mD.1 mD.2 m0.1 m0.2
  have z2 : nb (divPV 0 (hypV [a, 0, 0, d]) 30) 1073741824 := by rw [div_z]; unfold nb; omega
  rw [en] at m1
  generalize hypV [a, 0, 0, d] = n at *
  obtain ⟨k0, kA, kB, kC, kD, k1, k2⟩ := hyp4 (a := divPV a n 30) (b := divPV 0 n 30) (c := divPV 0 n 30) (d := divPV d n 30) (inS_bd a2) (inS_bd z2) (inS_bd z2) (inS_bd d2) (by omega)
  have le := n4_le (a := divPV a n 30) (b := divPV 0 n 30) (c := divPV 0 n 30) (d := divPV d n 30) a2 z2 z2 d2
  obtain ⟨k3, -⟩ := k2 (by omega)
  have big := len_big (by omega) k3 p1
  obtain ⟨b1, b2, -, b3, b4⟩ := dsign kA.1 kA.2 k0.1 k0.2
  obtain ⟨e1, e2, -, e3, e4⟩ := dsign kD.1 kD.2 k0.1 k0.2
  generalize divPV a n 30 = t0 at *
  generalize divPV d n 30 = t3 at *
  generalize hypV [t0, divPV 0 n 30, divPV 0 n 30, t3] = m at *
  generalize divPV t0 m 30 = f0 at *
  generalize divPV t3 m 30 = f3 at *
  have hn : n ≤ 1084426000 := by
    rcases Int.lt_or_le 1084426000 n with g | g
    · exfalso
      have : 1084426001 * 1084426000 ≤ n * (n - 1) := Int.mul_le_mul (by omega) (by omega) (by omega) (by omega)
      have e : n * (n - 1) = n * n - n := by grind
      omega
    · exact g
  have an : nb a n := ⟨by omega, by omega⟩
  have dn : nb d n := ⟨by omega, by omega⟩
  refine ⟨?_, ?_, ?_⟩
  · have g1 := d1.mul an
    have g2 := a1.mul dn
    have c1 : nb (t3 * a - t0 * d) n := by
      refine nb.cancel (m := n) (by omega) ?_
      have e : 2 * (n * (t3 * a - t0 * d)) = 2 * (t3 * n - d * 1073741824) * a - 2 * (t0 * n - a * 1073741824) * d := by grind
      unfold nb at *
      generalize n * (t3 * a - t0 * d) = X at *
      generalize 2 * (t3 * n - d * 1073741824) * a = A at *
      generalize 2 * (t0 * n - a * 1073741824) * d = B at *
      generalize n * n = nn at *
      omega
    have g3 := e1.mul an
    have g4 := b1.mul dn
    have e : 2 * (m * (f3 * a - f0 * d)) = 2 * (f3 * m - t3 * 1073741824) * a - 2 * (f0 * m - t0 * 1073741824) * d + 2147483648 * (t3 * a - t0 * d) := by grind
    have hmn : m * n ≤ m * 1084426000 := Int.mul_le_mul_of_nonneg_left hn (by omega)
    refine nb.cancel (m := m) (by omega) ?_
    unfold nb at *
    generalize m * (f3 * a - f0 * d) = X at *
    generalize 2 * (f3 * m - t3 * 1073741824) * a = A at *
    generalize 2 * (f0 * m - t0 * 1073741824) * d = B at *
    generalize t3 * a - t0 * d = C at *
    generalize m * n = mn at *
    omega
  · rcases Int.le_total 0 a with g | g
    · exact Int.mul_nonneg (b3 (a3 g)) g
    · exact Int.mul_nonneg_of_nonpos_of_nonpos (b4 (a4 g)) g
  · rcases Int.le_total 0 d with g | g
    · exact Int.mul_nonneg (e3 (d3 g)) g
    · exact Int.mul_nonneg_of_nonpos_of_nonpos (e4 (d4 g)) g
end Go.Proofs.Ytaebmggjhjobnaa
