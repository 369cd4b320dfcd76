/- Joined texts. What each part proves stands ahead of it; no condition. -/
import Derived.Test.YtnabopepomjncaaLrM5
import Derived.Test.YtnabopepomjncaaLrM4

/- The program's angle of a tangent against the reference's sine and cosine. Plain. -/
namespace Go.Proofs.Ytnabopepomjncaa
open Go.Lr Go.Tg
set_option linter.unusedVariables false
set_option linter.unusedSimpArgs false

def pcomp : List Int → List Int → List Int
  | [], _ => []
  | a :: l, q => padd [a] (pmul q (pcomp l q))
theorem pv_comp (q : List Int) (x : Int) : ∀ l : List Int, pv (pcomp l q) x = pv l (pv q x)
  | [] => rfl
  | a :: l => by simp only [pcomp, pv_add, pv_mul, pv, pv_comp q x l]; grind
def scl (V : Int) : List Int → List Int
  | [] => []
  | a :: l => (a * V ^ l.length) :: scl V l
theorem pv_scl (V r : Int) : ∀ l : List Int, V * pv (scl V l) (r * V) = V ^ l.length * pv l r
  | [] => by simp [scl, pv]
  | a :: l => by
    have h := pv_scl V r l
    simp only [scl, pv, List.length_cons, Int.pow_succ]
    have e : V * (a * V ^ l.length + r * V * pv (scl V l) (r * V)) = V * (a * V ^ l.length) + V * r * (V * pv (scl V l) (r * V)) := by grind
    rw [e, h]; grind
/-- The angle's series, times the tangent, at the scale V; the sine and the cosine cut at the eleventh. -/
def VV : Int := 1073741824 ^ 23
def atNl : List Int := 0 :: sprd (hL [-46684427] 1 atL)
def sinT : List Int := sinL.take 12
def cosT : List Int := cosL.take 12
def sinTV : List Int := scl VV sinT
def cosTV : List Int := scl VV cosT
/-- Every second coefficient. -/
def everyL : List Int → List Int
  | [] => []
  | [a] => [a]
  | a :: _ :: l => a :: everyL l
def sigV : List Int := everyL sinTV.tail
def gamV : List Int := everyL cosTV
def atP : List Int := hL [-46684427] 1 atL
def atQ : List Int := 0 :: pmul atP atP
def atH : List Int := padd (psm 1073741824 (pmul atP (pcomp sigV atQ))) (psm (-1) (pcomp gamV atQ))
theorem pv_last (x : Int) : ∀ l : List Int, pv (l ++ [0]) x = pv l x
  | [] => by simp [pv]
  | a :: l => by simp only [List.cons_append, pv, pv_last x l]
theorem sig_eq (X : Int) : pv sinTV X = X * pv sigV (X * X) := by
  have e : sinTV ++ [0] = 0 :: sprd sigV := by kernel_rfl
  rw [← pv_last, e]; simp only [pv, pv_sprd]; omega
theorem gam_eq (X : Int) : pv cosTV X = pv gamV (X * X) := by
  have e : cosTV = sprd gamV := by kernel_rfl
  rw [e, pv_sprd]
theorem chk5 : leB (444758427 * (2 * pv (pabs atH) 197810058387514329)) (MN * VV ^ 11) = true := by kernel_rfl
theorem at_comp {t : Int} (ht : nb t 444758427) : nb (2 * (1073741824 * pv sinTV (pv atNl t) - t * pv cosTV (pv atNl t))) (MN * VV ^ 11) := by
  have hy := ht.mul ht
  have h1 := ht.mul (nb.of (pv_abs hy.abs atH))
  have h2 := leB_le chk5
  have e : 1073741824 * pv sinTV (pv atNl t) - t * pv cosTV (pv atNl t) = t * pv atH (t * t) := by
    have en : pv atNl t = t * pv atP (t * t) := by unfold atNl; simp only [pv, pv_sprd]; rw [show hL [-46684427] 1 atL = atP from rfl]; omega
    have eq : pv atNl t * pv atNl t = pv atQ (t * t) := by rw [en]; unfold atQ; simp only [pv, pv_mul]; grind
    rw [sig_eq, gam_eq, eq, en]
    unfold atH
    rw [pv_add, pv_sm, pv_sm, pv_mul, pv_comp, pv_comp]; grind
  rw [e]
  rw [show (444758427 : Int) * 444758427 = 197810058387514329 by decide] at h1
  unfold nb at *
  omega
theorem chk6 : leB (1073741824 * (11 * VV * lip sinTV (480000000 * VV))) (15 * (MN * VV ^ 11)) = true := by kernel_rfl
theorem chk7 : leB (444758427 * (11 * VV * lip cosTV (480000000 * VV))) (5 * (MN * VV ^ 11)) = true := by kernel_rfl
theorem chk8 : leB (1073741824 * (1024 * pv (pabs (padd sinL (pneg sinT))) 480000000)) MN = true := by kernel_rfl
theorem chk9 : leB (444758427 * (1024 * pv (pabs (padd cosL (pneg cosT))) 480000000)) MN = true := by kernel_rfl
theorem atW : hW 1 atL = 1073741824 ^ 22 := by decide +kernel
/-- An angle near the series' is one whose tangent it is. -/
theorem at_ref {t r : Int} (ht : nb t 444758427) (hr : nb r 480000000) (hN : nb (pv atNl t) (480000000 * VV)) (h : nb (5 * (r * VV - pv atNl t)) (11 * VV)) : nb (1073741824 * Sp r - t * Cp r) (5 * MN) := by
  have hM := MN_pos
  have hV : 0 < VV := by decide +kernel
  have hV11 : 0 < VV ^ 11 := by decide +kernel
  have g := at_comp ht
  have hrV : nb (r * VV) (480000000 * VV) := by
    have := hr.mul (show nb VV VV by unfold nb; omega)
    exact this
  have d5 : (((5 * r * VV - 5 * pv atNl t).natAbs : Int)) ≤ 11 * VV := by
    have e : 5 * r * VV - 5 * pv atNl t = 5 * (r * VV - pv atNl t) := by grind
    rw [e]; exact h.abs
  have dd : ((r * VV - pv atNl t).natAbs : Int) ≤ (r * VV - pv atNl t).natAbs := Int.le_refl _
  have l1 := nb.of (pv_lip hrV.abs hN.abs dd sinTV)
  have l2 := nb.of (pv_lip hrV.abs hN.abs dd cosTV)
  have d : 5 * ((r * VV - pv atNl t).natAbs : Int) ≤ 11 * VV := by have := h.abs; omega
  have c6 := leB_le chk6
  have c7 := leB_le chk7
  have n1 : 0 ≤ lip sinTV (480000000 * VV) := by decide +kernel
  have n2 : 0 ≤ lip cosTV (480000000 * VV) := by decide +kernel
  have m1 := Int.mul_le_mul_of_nonneg_right d n1
  have m2 := Int.mul_le_mul_of_nonneg_right d n2
  have s1 := pv_scl VV r sinT
  have s2 := pv_scl VV r cosT
  rw [show sinT.length = 12 by rfl] at s1
  rw [show cosT.length = 12 by rfl] at s2
  have e1 : pv sinTV (r * VV) = VV ^ 11 * pv sinT r := by
    have h12 : VV ^ 12 = VV * VV ^ 11 := by rw [Int.mul_comm]; exact Int.pow_succ VV 11
    rw [h12, Int.mul_assoc] at s1
    exact Int.eq_of_mul_eq_mul_left (by omega) s1
  have e2 : pv cosTV (r * VV) = VV ^ 11 * pv cosT r := by
    have h12 : VV ^ 12 = VV * VV ^ 11 := by rw [Int.mul_comm]; exact Int.pow_succ VV 11
    rw [h12, Int.mul_assoc] at s2
    exact Int.eq_of_mul_eq_mul_left (by omega) s2
  have t1 := nb.of (pv_abs hr.abs (padd sinL (pneg sinT)))
  have t2 := nb.of (pv_abs hr.abs (padd cosL (pneg cosT)))
  rw [pv_add, pv_pneg] at t1 t2
  have c8 := leB_le chk8
  have c9 := leB_le chk9
  have l2t := ht.mul l2
  have t2t := ht.mul t2
  rw [e1] at l1
  rw [e2] at l2t
  change nb (Sp r + -pv sinT r) _ at t1
  change nb (t * (Cp r + -pv cosT r)) _ at t2t
  generalize pv sinTV (pv atNl t) = FS at *
  generalize pv cosTV (pv atNl t) = FC at *
  generalize pv (pabs (padd sinL (pneg sinT))) 480000000 = b1 at *
  generalize pv (pabs (padd cosL (pneg cosT))) 480000000 = b2 at *
  generalize ((r * VV - pv atNl t).natAbs : Int) = D at *
  generalize lip sinTV (480000000 * VV) = L1 at *
  generalize lip cosTV (480000000 * VV) = L2 at *
  generalize pv sinT r = ps at *
  generalize pv cosT r = pc at *
  generalize Sp r = sr at *
  generalize Cp r = cr at *
  have k1 : 1073741824 * (11 * VV * L1) ≤ 15 * (MN * VV ^ 11) := c6
  have k2 : 444758427 * (11 * VV * L2) ≤ 5 * (MN * VV ^ 11) := c7
  generalize VV * L1 = VL1 at *
  refine nb.cancel (m := VV ^ 11) hV11 ?_
  have q1 := t1.lmul (show 0 ≤ VV ^ 11 by omega)
  have q2 := t2t.lmul (show 0 ≤ VV ^ 11 by omega)
  have q8 := Int.mul_le_mul_of_nonneg_left c8 (show 0 ≤ VV ^ 11 by omega)
  have q9 := Int.mul_le_mul_of_nonneg_left c9 (show 0 ≤ VV ^ 11 by omega)
  generalize VV ^ 11 = V at *
  generalize MN = M at *
  have e : V * (1073741824 * sr - t * cr) = 1073741824 * (V * (sr + -ps)) - V * (t * (cr + -pc)) + 1073741824 * (V * ps - FS) - t * (V * pc - FC) + (1073741824 * FS - t * FC) := by grind
  rw [e]
  have e3 : V * (5 * M) = 5 * (M * V) := by grind
  have e4 : V * (1073741824 * (1024 * b1)) = 1099511627776 * (V * b1) := by grind
  have e5 : V * (444758427 * (1024 * b2)) = 1024 * (V * (444758427 * b2)) := by grind
  have e6 : V * M = M * V := Int.mul_comm ..
  rw [e3]
  rw [e4, e6] at q8
  rw [e5, e6] at q9
  have e7 : 11 * VV * L1 = 11 * VV * L1 := rfl
  have e8 : 5 * D * L1 = 5 * (D * L1) := by grind
  have e9 : 5 * D * L2 = 5 * (D * L2) := by grind
  rw [e8] at m1
  rw [e9] at m2
  unfold nb at *
  generalize V * (sr + -ps) = A at *
  generalize V * (t * (cr + -pc)) = B at *
  generalize V * ps - FS = Y at *
  generalize t * (V * pc - FC) = Z at *
  generalize 1073741824 * FS - t * FC = X at *
  generalize 11 * VV * L1 = X1 at *
  generalize 11 * VV * L2 = X2 at *
  generalize D * L1 = D1 at *
  generalize D * L2 = D2 at *
  generalize M * V = MV at *
  generalize V * b1 = B1 at *
  generalize V * (444758427 * b2) = B2 at *
  omega
theorem chk10 : leB (pv (pabs atNl) 444758427) (479000000 * VV) = true := by kernel_rfl
/-- The angle of a small tangent. -/
def coreM (t : Int) : Int := mulV t (serV (mulV t t 30) (-46684427) atL) 30
theorem core_ser {t : Int} (ht : nb t 444758427) : ∃ S, coreM t = mulV t S 30 ∧ 815000000 ≤ S ∧ S ≤ 1332000000 ∧ nb (S * 1073741824 ^ 22 - pv (hL [-46684427] 1 atL) (t * t)) (4 * 1073741824 ^ 22) ∧ nb (2 * (coreM t * 1073741824 - t * S)) 1073741824 := by
  have h2 := ht.mul ht
  have q0 : 0 ≤ t * t := by
    rcases Int.le_total 0 t with k | k
    · exact Int.mul_nonneg k k
    · exact Int.mul_nonneg_of_nonpos_of_nonpos k k
  have q1 : t * t ≤ 197810058387514329 := by unfold nb at h2; omega
  have hz := mul30 (ht.le (show (444758427 : Int) ≤ 4294967296 by omega)) (ht.le (show (444758427 : Int) ≤ 4294967296 by omega))
  have hl : atL = [51130563, -56512728, 63161284, -71582788, 82595525, -97612893, 119304647, -153391689, 214748365, -357913941] ++ [1073741824] := rfl
  have hk : ∀ k ∈ [51130563, -56512728, 63161284, -71582788, 82595525, -97612893, 119304647, -153391689, 214748365, -357913941], nb k 536870912 := by unfold nb; simp
  obtain ⟨a0, a1, -⟩ := ser_all (a := -46684427) q0 (by omega) hz (by unfold nb; omega) hk
  obtain ⟨b0, -, -⟩ := ser_err (x2 := t * t) q0 (by omega) hz _ (-46684427) (-46684427) 1 (by omega) hk (by unfold nb; omega) (by unfold nb; omega)
  have ea := ser_app (mulV t t 30) 1073741824 [51130563, -56512728, 63161284, -71582788, 82595525, -97612893, 119304647, -153391689, 214748365, -357913941] (-46684427)
  rw [← hl] at a0 a1 ea
  have zb : nb (mulV t t 30) 184230000 := by unfold nb at hz ⊢; omega
  have hm := mul30 (zb.le (show (184230000 : Int) ≤ 4294967296 by omega)) (b0.le (show (1503238553 : Int) ≤ 4294967296 by omega))
  have hzs := zb.mul b0
  generalize serV (mulV t t 30) (-46684427) [51130563, -56512728, 63161284, -71582788, 82595525, -97612893, 119304647, -153391689, 214748365, -357913941] = s1 at *
  have mb : nb (mulV (mulV t t 30) s1 30) 258100000 := by unfold nb at *; omega
  rw [addnb (by unfold nb; omega) (mb.le (by omega))] at ea
  rw [atW] at a1
  refine ⟨serV (mulV t t 30) (-46684427) atL, rfl, ?_, ?_, a1, mul30 (ht.le (by omega)) (a0.le (by omega))⟩
  · rw [ea]; unfold nb at mb; omega
  · rw [ea]; unfold nb at mb; omega
theorem core_tan {t : Int} (ht : nb t 444758427) : nb (1073741824 * SG (coreM t) - t * CG (coreM t)) 13958643712 ∧ nb (coreM t) 480000000 ∧ (0 < t → 0 < coreM t) ∧ (t = 0 → coreM t = 0) ∧ (t < 0 → coreM t < 0) := by
  obtain ⟨S, -, S0, S1, hS, hm⟩ := core_ser ht
  generalize coreM t = r at *
  have hM := MN_pos
  have hV : 0 < VV := by decide +kernel
  have nN := ht.abs
  have n1 := nb.of (pv_abs ht.abs atNl)
  have c10 := leB_le chk10
  have n2 : nb (pv atNl t) (479000000 * VV) := n1.le c10
  have en : pv atNl t = t * pv (hL [-46684427] 1 atL) (t * t) := by unfold atNl; simp only [pv, pv_sprd]; omega
  have hd : nb (5 * (r * VV - pv atNl t)) (11 * VV) := by
    rw [en]
    have b1 := ht.mul hS
    have e : 2 * (r * VV - t * pv (hL [-46684427] 1 atL) (t * t)) = 1073741824 ^ 22 * (2 * (r * 1073741824 - t * S)) + 2 * (t * (S * 1073741824 ^ 22 - pv (hL [-46684427] 1 atL) (t * t))) := by
      rw [show VV = 1073741824 * 1073741824 ^ 22 by decide +kernel]; grind
    have ev : VV = 1073741824 ^ 23 := rfl
    generalize pv (hL [-46684427] 1 atL) (t * t) = p at *
    rw [ev] at *
    unfold nb at *
    generalize t * (S * 1073741824 ^ 22 - p) = A at *
    generalize 2 * (r * 1073741824 - t * S) = B at *
    generalize r * 1073741824 ^ 23 - t * p = X at *
    omega
  have hr : nb r 480000000 := by
    generalize pv atNl t = N at *
    have k : nb (r * VV) (479000003 * VV) := by
      unfold nb at *
      generalize VV = V at *
      generalize r * V = rV at *
      omega
    have := nb.cancel (a := r) (k := 479000003) hV (by rw [Int.mul_comm VV r, Int.mul_comm VV]; exact k)
    exact this.le (by omega)
  have hf := at_ref ht hr (n2.le (by omega)) hd
  have s := (SG_err (hr.le (show (480000000 : Int) ≤ 1686629713 by omega))).lmul (show (0 : Int) ≤ 1073741824 by omega)
  have c := ht.mul (CG_err (hr.le (show (480000000 : Int) ≤ 1686629713 by omega)))
  refine ⟨?_, hr, ?_, ?_, ?_⟩
  · refine nb.cancel hM ?_
    have e : 2 * (MN * (1073741824 * SG r - t * CG r)) = 1073741824 * (2 * (MN * SG r - 1073741824 * Sp r)) - t * (2 * (MN * CG r - 1073741824 * Cp r)) + 2147483648 * (1073741824 * Sp r - t * Cp r) := by grind
    unfold nb at *
    generalize MN * (1073741824 * SG r - t * CG r) = X at *
    generalize 2 * (MN * SG r - 1073741824 * Sp r) = A at *
    generalize t * (2 * (MN * CG r - 1073741824 * Cp r)) = B at *
    generalize 1073741824 * Sp r - t * Cp r = D at *
    generalize MN = M at *
    omega
  · intro h
    have := Int.mul_le_mul (show 1 ≤ t by omega) S0 (by omega) (by omega)
    unfold nb at hm; omega
  · rintro rfl
    unfold nb at hm; omega
  · intro h
    have := Int.mul_le_mul (show 1 ≤ -t by omega) S0 (by omega) (by omega)
    rw [Int.neg_mul] at this
    unfold nb at hm; omega
end Go.Proofs.Ytnabopepomjncaa

/- The program's angle of a point: the point lies in that direction (within 81). Plain. -/
namespace Go.Proofs.Ytnabopepomjncaa
open Go.Lr Go.Tg
set_option linter.unusedVariables false
set_option linter.unusedSimpArgs false

theorem chk11 : leB (100 * pv (pabs (padd cosL [-MN])) 843400000) (33 * MN) = true := by kernel_rfl
theorem CG_low {r : Int} (hr : nb r 843400000) : 700000000 ≤ CG r := by
  have h := nb.of (pv_abs hr.abs (padd cosL [-MN]))
  have c := leB_le chk11
  rw [pv_add] at h
  have e := CG_err (hr.le (show (843400000 : Int) ≤ 1686629713 by omega))
  have hM := MN_pos
  change nb (Cp r + (-MN + r * 0)) _ at h
  generalize pv (pabs (padd cosL [-MN])) 843400000 = b at *
  generalize Cp r = cp at *
  rw [Int.mul_zero, Int.add_zero] at h
  rcases Int.lt_or_le (CG r) 700000000 with g | g
  · exfalso
    have := Int.mul_le_mul_of_nonneg_left (show CG r ≤ 699999999 by omega) (show 0 ≤ MN by omega)
    unfold nb at *
    generalize MN * CG r = X at *
    generalize MN = M at *
    omega
  · exact g
theorem CG_E : CG 843314857 = 759250124 := by decide +kernel
theorem SG_E : SG 843314857 = 759250125 := by decide +kernel
/-- A tangent above the sixteenth's, less an eighth turn. -/
theorem tt_ok {t : Int} (h0 : 444758427 ≤ t) (h1 : t ≤ 1073741824) : -444758427 ≤ ttV true t ∧ ttV true t ≤ 0 ∧ nb (2 * (ttV true t * (t + 1073741824) - (t - 1073741824) * 1073741824)) (t + 1073741824) := by
  have e1 : wr IntKind.i64 (t - 1073741824) = t - 1073741824 := w64_in (by omega) (by omega)
  have e2 : wr IntKind.i64 (t + 1073741824) = t + 1073741824 := w64_in (by omega) (by omega)
  have hd : divV ((t - 1073741824) * 1073741824) (t + 1073741824) = -quoR ((1073741824 - t) * 1073741824) (t + 1073741824) := by
    unfold divV
    rw [absV_neg (a := (t - 1073741824) * 1073741824) (by omega), absV_pos (a := t + 1073741824) (by omega)]
    have e : -((t - 1073741824) * 1073741824) = (1073741824 - t) * 1073741824 := by omega
    rw [e, decide_eq_false (show ¬ t + 1073741824 < 0 by omega)]
    by_cases h : (t - 1073741824) * 1073741824 < 0
    · rw [decide_eq_true h]; rfl
    · have : t = 1073741824 := by omega
      subst this; decide
  have hq := quo_bd (a := (1073741824 - t) * 1073741824) (b := t + 1073741824) (by omega) (by omega)
  have hn : 0 ≤ quoR ((1073741824 - t) * 1073741824) (t + 1073741824) := by
    have := Int.ediv_nonneg (a := (1073741824 - t) * 1073741824) (b := t + 1073741824) (by omega) (by omega)
    unfold quoR; split <;> omega
  have hle : quoR ((1073741824 - t) * 1073741824) (t + 1073741824) ≤ 444758427 := by
    rcases Int.lt_or_le 444758427 (quoR ((1073741824 - t) * 1073741824) (t + 1073741824)) with h | h
    · exfalso
      have : 444758428 * (t + 1073741824) ≤ quoR ((1073741824 - t) * 1073741824) (t + 1073741824) * (t + 1073741824) := Int.mul_le_mul_of_nonneg_right (by omega) (by omega)
      omega
    · exact h
  have ev : ttV true t = -quoR ((1073741824 - t) * 1073741824) (t + 1073741824) := by
    show divPV (wr IntKind.i64 (t - 1073741824)) (wr IntKind.i64 (t + 1073741824)) 30 = _
    rw [e1, e2]
    have e : pow2 (Int.toNat 30) = 1073741824 := rfl
    unfold divPV byV
    rw [if_neg (by decide), if_neg (by decide), e, sat_in (a := t - 1073741824) (by omega) (by omega), sat_in (a := t + 1073741824) (by omega) (by omega), if_neg (by omega), hd, sat_in (by omega) (by omega)]
  rw [ev]
  generalize quoR ((1073741824 - t) * 1073741824) (t + 1073741824) = q at *
  refine ⟨by omega, by omega, ?_⟩
  unfold nb
  rw [Int.neg_mul]
  generalize q * (t + 1073741824) = p at *
  omega
/-- The angle of a tangent up to one. -/
def coreA (t : Int) : Int := r0V (decide (t > 444758426)) t
theorem core_big {t q r : Int} (h0 : 0 ≤ t) (h1 : t ≤ 1073741824) (hq : nb (2 * (q * (t + 1073741824) - (t - 1073741824) * 1073741824)) (t + 1073741824)) (hr : nb (1073741824 * SG r - q * CG r) 13958643712) :
    nb (1073741824 * SG (843314857 + r) - t * CG (843314857 + r)) 85899345920 := by
  have hs := sum_all 843314857 r
  unfold SumQ at hs
  rw [CG_E, SG_E] at hs
  obtain ⟨s1, s2⟩ := hs
  have cb := CG_bd r
  have sb := SG_bd r
  generalize CG (843314857 + r) = C at *
  generalize SG (843314857 + r) = S at *
  generalize CG r = c at *
  generalize SG r = s at *
  have tn : nb t 1073741824 := ⟨by omega, h1⟩
  have a1 := tn.mul s1
  have a2 := tn.mul sb
  have a4 := tn.mul cb
  have a3 := (show nb (t + 1073741824) 2147483648 by unfold nb; omega).mul hr
  have a5 := hq.mul cb
  have a5' : nb (2 * (q * (t + 1073741824) - (t - 1073741824) * 1073741824) * c) (2147483648 * 1073741824) := a5.le (Int.mul_le_mul_of_nonneg_right (by omega) (by omega))
  -- U * G, where G = (U - t) c + (U + t) s
  have g : 2 * (1073741824 * ((1073741824 - t) * c + (1073741824 + t) * s)) = 2 * ((t + 1073741824) * (1073741824 * s - q * c)) + 2 * (q * (t + 1073741824) - (t - 1073741824) * 1073741824) * c := by grind
  have gb : nb ((1073741824 - t) * c + (1073741824 + t) * s) 28991029248 := by
    unfold nb at a3 a5' ⊢
    generalize (t + 1073741824) * (1073741824 * s - q * c) = A at *
    generalize 2 * (q * (t + 1073741824) - (t - 1073741824) * 1073741824) * c = B at *
    generalize (1073741824 - t) * c + (1073741824 + t) * s = G at *
    omega
  have e : 1073741824 * (1073741824 * S - t * C) = 759250124 * ((1073741824 - t) * c + (1073741824 + t) * s) + 1073741824 * c + t * s - 1073741824 * (759250125 * c + 759250124 * s - 1073741824 * S) + t * (759250124 * c - 759250125 * s - 1073741824 * C) := by grind
  refine nb.cancel (m := 1073741824) (by omega) ?_
  rw [e]
  unfold nb at *
  generalize (1073741824 - t) * c + (1073741824 + t) * s = G at *
  generalize t * (759250124 * c - 759250125 * s - 1073741824 * C) = X at *
  generalize t * s = Y at *
  omega
theorem core_dir {t : Int} (h0 : 0 ≤ t) (h1 : t ≤ 1073741824) : nb (1073741824 * SG (coreA t) - t * CG (coreA t)) 85899345920 ∧ 0 ≤ coreA t ∧ coreA t ≤ 843314857 ∧ (0 < t → 0 < coreA t) ∧ (t = 0 → coreA t = 0) := by
  unfold coreA r0V
  by_cases hb : t > 444758426
  · rw [decide_eq_true hb]
    obtain ⟨b0, b1, b2⟩ := tt_ok (t := t) (by omega) h1
    generalize ttV true t = q at *
    simp only [cond_true]
    have hc := core_tan (t := q) (by unfold nb; omega)
    rw [show mulV q (serV (mulV q q 30) (-46684427) atL) 30 = coreM q from rfl]
    obtain ⟨c1, c2, c3, c4, c5⟩ := hc
    have hle : coreM q ≤ 0 := by
      rcases Int.lt_or_le q 0 with k | k
      · exact Int.le_of_lt (c5 k)
      · exact Int.le_of_eq (c4 (by omega))
    unfold nb at c2
    rw [wr_i, w64_in (by omega) (by omega)]
    exact ⟨core_big h0 h1 b2 c1, by omega, by omega, by omega, by omega⟩
  · rw [decide_eq_false hb]
    show nb (1073741824 * SG (wr IntKind.i64 (0 + coreM t)) - t * CG (wr IntKind.i64 (0 + coreM t))) 85899345920 ∧ 0 ≤ wr IntKind.i64 (0 + coreM t) ∧ wr IntKind.i64 (0 + coreM t) ≤ 843314857 ∧ (0 < t → 0 < wr IntKind.i64 (0 + coreM t)) ∧ (t = 0 → wr IntKind.i64 (0 + coreM t) = 0)
    obtain ⟨c1, c2, c3, c4, c5⟩ := core_tan (t := t) (by unfold nb; omega)
    have e : wr IntKind.i64 (0 + coreM t) = coreM t := by
      unfold nb at c2
      rw [wr_i, w64_in (by omega) (by omega)]; omega
    rw [e]
    have hle : 0 ≤ coreM t := by
      rcases Int.lt_or_le 0 t with k | k
      · exact Int.le_of_lt (c3 k)
      · exact Int.le_of_eq (c4 (by omega)).symm
    exact ⟨c1.le (by omega), hle, by unfold nb at c2; omega, c3, c4⟩

/-- The lesser and the greater side. -/
def mnB (y x : Int) : Int := if absV x < absV y then absV x else absV y
def mxB (y x : Int) : Int := if absV x > absV y then absV x else absV y
theorem fabs_in {a : Int} (h : nb a 576460752303423488) : fabsV (satV a) = absV a := by
  unfold nb at h
  rw [sat_in (by omega) (by omega)]
  unfold fabsV absV; (repeat' split) <;> omega
theorem mnB_eq {y x : Int} (hy : nb y 576460752303423488) (hx : nb x 576460752303423488) : mnV y x = mnB y x ∧ mxV y x = mxB y x := by
  unfold mnV mxV mnB mxB
  rw [fabs_in hy, fabs_in hx]; exact ⟨rfl, rfl⟩
theorem mB_bd {y x : Int} (hy : nb y 576460752303423488) (hx : nb x 576460752303423488) (h : y ≠ 0 ∨ x ≠ 0) :
    0 ≤ mnB y x ∧ mnB y x ≤ mxB y x ∧ 1 ≤ mxB y x ∧ mxB y x ≤ 576460752303423488 := by
  unfold nb at *
  unfold mnB mxB absV; (repeat' split) <;> omega
theorem divq' {v u : Int} (h0 : 0 ≤ v) (h1 : v ≤ u) (h2 : 1 ≤ u) (h3 : u ≤ 1152921504606846976) : divPV v u 30 = quoR (v * 1073741824) u ∧ 0 ≤ quoR (v * 1073741824) u ∧ quoR (v * 1073741824) u ≤ 1073741824 := by
  have hb := quo_bd (a := v * 1073741824) (b := u) (by omega) (by omega)
  have hd := div_pos (a := v * 1073741824) (b := u) (by omega) (by omega)
  have hn : 0 ≤ quoR (v * 1073741824) u := by
    have := Int.ediv_nonneg (a := v * 1073741824) (b := u) (by omega) (by omega)
    unfold quoR; split <;> omega
  have hle : quoR (v * 1073741824) u ≤ 1073741824 := by
    rcases Int.lt_or_le 1073741824 (quoR (v * 1073741824) u) with h | h
    · exfalso
      have : 1073741825 * u ≤ quoR (v * 1073741824) u * u := Int.mul_le_mul_of_nonneg_right (by omega) (by omega)
      omega
    · exact h
  refine ⟨?_, hn, hle⟩
  have e : pow2 (Int.toNat 30) = 1073741824 := rfl
  unfold divPV byV
  rw [if_neg (by decide), if_neg (by decide), e, sat_in (a := v) (by omega) (by omega), sat_in (a := u) (by omega) h3, if_neg (by omega), hd, sat_in (by omega) (by omega)]
/-- What the angle is, by the signs. -/
def angB (y x r : Int) : Int :=
  if y < 0 then -(if x < 0 then 3373259426 - (if absV y > absV x then 1686629713 - r else r) else (if absV y > absV x then 1686629713 - r else r)) else (if x < 0 then 3373259426 - (if absV y > absV x then 1686629713 - r else r) else (if absV y > absV x then 1686629713 - r else r))
theorem atanV_eq {y x : Int} (hy : nb y 576460752303423488) (hx : nb x 576460752303423488) (hne : y ≠ 0 ∨ x ≠ 0) :
    atanV y x = angB y x (coreA (quoR (mnB y x * 1073741824) (mxB y x))) := by
  obtain ⟨e1, e2⟩ := mnB_eq hy hx
  obtain ⟨b0, b1, b2, b3⟩ := mB_bd hy hx hne
  obtain ⟨q1, q2, q3⟩ := divq' b0 b1 b2 (by omega)
  obtain ⟨-, c0, c1, -, -⟩ := core_dir q2 q3
  have et : t0V y x = quoR (mnB y x * 1073741824) (mxB y x) := by unfold t0V; rw [e1, e2, q1]
  have f1 := fabs_in hy
  have f2 := fabs_in hx
  unfold nb at hy hx
  unfold atanV
  rw [cond_f (by rw [e2]; simp; omega), f1, f2, sat_in (a := y) (by omega) (by omega), sat_in (a := x) (by omega) (by omega), et]
  unfold atanB angB
  have ec : r0V (decide (quoR (mnB y x * 1073741824) (mxB y x) > 444758426)) (quoR (mnB y x * 1073741824) (mxB y x)) = coreA (quoR (mnB y x * 1073741824) (mxB y x)) := rfl
  rw [ec]
  generalize coreA (quoR (mnB y x * 1073741824) (mxB y x)) = r at *
  have w1 : wr IntKind.i64 (1686629713 - r) = 1686629713 - r := w64_in (by omega) (by omega)
  rw [w1]
  have hv0 : (bif decide (absV y > absV x) then 1686629713 - r else r) = if absV y > absV x then 1686629713 - r else r := by
    by_cases h : absV y > absV x
    · rw [decide_eq_true h, if_pos h]; rfl
    · rw [decide_eq_false h, if_neg h]; rfl
  rw [hv0]
  have hv : 0 ≤ (if absV y > absV x then 1686629713 - r else r) ∧ (if absV y > absV x then 1686629713 - r else r) ≤ 1686629713 := by split <;> omega
  generalize (if absV y > absV x then 1686629713 - r else r) = u at *
  have w2 : wr IntKind.i64 (3373259426 - u) = 3373259426 - u := w64_in (by omega) (by omega)
  rw [w2]
  have hu : (bif decide (x < 0) then 3373259426 - u else u) = if x < 0 then 3373259426 - u else u := by
    by_cases h : x < 0
    · rw [decide_eq_true h, if_pos h]; rfl
    · rw [decide_eq_false h, if_neg h]; rfl
  rw [hu]
  have hv2 : 0 ≤ (if x < 0 then 3373259426 - u else u) ∧ (if x < 0 then 3373259426 - u else u) ≤ 3373259426 := by split <;> omega
  generalize (if x < 0 then 3373259426 - u else u) = p at *
  have w3 : wr IntKind.i64 (0 - p) = -p := by have := w64_in (x := 0 - p) (by omega) (by omega); rw [wr_i, this]; omega
  rw [w3]
  by_cases h : y < 0
  · rw [decide_eq_true h, if_pos h]; rfl
  · rw [decide_eq_false h, if_neg h]; rfl
/-- The direction: across within 81 of the greater side; ahead. -/
def Dir (y x u r : Int) : Prop := nb (y * CG r - x * SG r) (81 * u) ∧ 699000000 * u ≤ x * CG r + y * SG r
theorem dir_base {t u v : Int} (hu : 1 ≤ u) (hv0 : 0 ≤ v) (hv1 : v ≤ u) (h0 : 0 ≤ t) (h1 : t ≤ 1073741824) (hq : nb (2 * (t * u - v * 1073741824)) u) : Dir v u u (coreA t) := by
  obtain ⟨d, c0, c1, -, -⟩ := core_dir h0 h1
  have cl := CG_low (r := coreA t) (by unfold nb; omega)
  have cb := CG_bd (coreA t)
  unfold Dir
  generalize coreA t = r at *
  generalize CG r = c at *
  generalize SG r = s at *
  have s0 : -81 ≤ s := by
    have := Int.mul_nonneg h0 (show 0 ≤ c by omega)
    unfold nb at d
    generalize t * c = tc at *
    omega
  constructor
  · refine nb.cancel (m := 1073741824) (by omega) ?_
    have a1 := d.lmul (show 0 ≤ u by omega)
    have a2 := hq.mul cb
    have e : 2 * (1073741824 * (v * c - u * s)) = -(2 * (t * u - v * 1073741824) * c) - 2 * (u * (1073741824 * s - t * c)) := by grind
    unfold nb at a1 a2 ⊢
    generalize 2 * (t * u - v * 1073741824) * c = A at *
    generalize u * (1073741824 * s - t * c) = B at *
    generalize v * c - u * s = X at *
    omega
  · have a1 := Int.mul_le_mul_of_nonneg_left cl (show 0 ≤ u by omega)
    have a2 := Int.mul_le_mul_of_nonneg_left s0 hv0
    have e1 : u * 700000000 = 700000000 * u := Int.mul_comm ..
    omega
theorem atan_dir {y x : Int} (hy : nb y 576460752303423488) (hx : nb x 576460752303423488) (hne : y ≠ 0 ∨ x ≠ 0) : Dir y x (mxB y x) (atanV y x) := by
  obtain ⟨b0, b1, b2, b3⟩ := mB_bd hy hx hne
  obtain ⟨q1, q2, q3⟩ := divq' b0 b1 b2 (by omega)
  have hb := quo_bd (a := mnB y x * 1073741824) (b := mxB y x) (by omega) (by omega)
  have hd := dir_base b2 b0 b1 q2 q3 (show nb _ _ from hb)
  rw [atanV_eq hy hx hne]
  generalize coreA (quoR (mnB y x * 1073741824) (mxB y x)) = r at *
  unfold Dir at *
  -- the steep ones
  have h1 : nb (absV y * CG (if absV y > absV x then 1686629713 - r else r) - absV x * SG (if absV y > absV x then 1686629713 - r else r)) (81 * mxB y x) ∧ 699000000 * mxB y x ≤ absV x * CG (if absV y > absV x then 1686629713 - r else r) + absV y * SG (if absV y > absV x then 1686629713 - r else r) := by
    by_cases h : absV y > absV x
    · have e1 : mnB y x = absV x := by unfold mnB; rw [if_pos (by omega)]
      have e2 : mxB y x = absV y := by unfold mxB; rw [if_neg (by omega)]
      rw [if_pos h, CG_co, SG_co]
      rw [e1, e2] at hd
      rw [e2]
      generalize absV x * CG r = A at *
      generalize absV y * SG r = B at *
      generalize absV y * CG r = C at *
      generalize absV x * SG r = D at *
      unfold nb at *
      omega
    · rw [if_neg h]
      by_cases h2 : absV x = absV y
      · have e1 : mnB y x = absV y := by unfold mnB; rw [if_neg (by omega)]
        have e2 : mxB y x = absV x := by unfold mxB; rw [if_neg (by omega)]; exact h2.symm
        rw [e1, e2] at hd; rw [e2]; exact hd
      · have e1 : mnB y x = absV y := by unfold mnB; rw [if_neg (by omega)]
        have e2 : mxB y x = absV x := by unfold mxB; rw [if_pos (by omega)]
        rw [e1, e2] at hd; rw [e2]; exact hd
  unfold angB
  generalize (if absV y > absV x then 1686629713 - r else r) = p at *
  have h2 : nb (absV y * CG (if x < 0 then 3373259426 - p else p) - x * SG (if x < 0 then 3373259426 - p else p)) (81 * mxB y x) ∧ 699000000 * mxB y x ≤ x * CG (if x < 0 then 3373259426 - p else p) + absV y * SG (if x < 0 then 3373259426 - p else p) := by
    by_cases h : x < 0
    · rw [if_pos h, CG_half, SG_half]
      rw [absV_neg (a := x) (by omega), Int.neg_mul, Int.neg_mul] at h1
      rw [Int.mul_neg, Int.mul_neg]
      generalize x * CG p = A at *
      generalize absV y * SG p = B at *
      generalize absV y * CG p = C at *
      generalize x * SG p = D at *
      unfold nb at *
      omega
    · rw [if_neg h]
      rw [absV_pos (a := x) (by omega)] at h1
      exact h1
  generalize (if x < 0 then 3373259426 - p else p) = g at *
  by_cases h : y < 0
  · rw [if_pos h, CG_neg, SG_neg]
    rw [absV_neg (a := y) (by omega), Int.neg_mul, Int.neg_mul] at h2
    rw [Int.mul_neg, Int.mul_neg]
    generalize x * CG g = A at *
    generalize y * SG g = B at *
    generalize y * CG g = C at *
    generalize x * SG g = D at *
    unfold nb at *
    omega
  · rw [if_neg h]
    rw [absV_pos (a := y) (by omega)] at h2
    exact h2
/-- Its bounds, and its sign. -/
theorem atan_sg {y x : Int} (hy : nb y 576460752303423488) (hx : nb x 576460752303423488) (hne : y ≠ 0 ∨ x ≠ 0) : nb (atanV y x) 3373259426 ∧ (0 ≤ y → 0 ≤ atanV y x) ∧ (y ≤ 0 → 0 ≤ x → atanV y x ≤ 0) ∧ (y < 0 → atanV y x ≤ 0) ∧ (0 ≤ x → nb (atanV y x) 1686629713) := by
  obtain ⟨b0, b1, b2, b3⟩ := mB_bd hy hx hne
  obtain ⟨q1, q2, q3⟩ := divq' b0 b1 b2 (by omega)
  obtain ⟨-, c0, c1, -, c3⟩ := core_dir q2 q3
  rw [atanV_eq hy hx hne]
  have hz : y = 0 → coreA (quoR (mnB y x * 1073741824) (mxB y x)) = 0 ∧ ¬ absV y > absV x := by
    rintro rfl
    refine ⟨c3 ?_, ?_⟩
    · have : mnB 0 x = 0 := by unfold mnB absV; (repeat' split) <;> omega
      rw [this, Int.zero_mul]
      exact quoR_zero (by omega)
    · unfold absV; (repeat' split) <;> omega
  generalize coreA (quoR (mnB y x * 1073741824) (mxB y x)) = r at *
  unfold angB nb
  by_cases h0 : y = 0
  · obtain ⟨z1, z2⟩ := hz h0
    rw [if_neg z2, z1]
    (repeat' split) <;> omega
  · (repeat' split) <;> omega
end Go.Proofs.Ytnabopepomjncaa

/- Nothing is clamped in sines, cosines, angles. Plain. -/
namespace Go.Proofs.Ytnabopepomjncaa
open Go.Lr Go.Tg
set_option linter.unusedVariables false
set_option linter.unusedSimpArgs false

theorem mulH30 {a b : Int} (ha : nb a 4294967296) (hb : nb b 4294967296) : mulH a b 30 = false := by
  have h := rnd_bd (a * b) 30
  rw [show pow2 30 = 1073741824 from rfl] at h
  have hp := ha.mul hb
  unfold nb at ha hb hp
  unfold mulH rndH
  rw [sat_in (a := a) (by omega) (by omega), sat_in (a := b) (by omega) (by omega), satH_in (a := a) (by omega) (by omega), satH_in (a := b) (by omega) (by omega), show Int.toNat 30 = 30 from rfl, satH_in (a := rndV (a * b) 30) (by omega) (by omega)]
  decide
theorem addHnb {a b : Int} (ha : nb a 4294967296) (hb : nb b 4294967296) : faddH [a, b] = false := by
  unfold nb at ha hb
  unfold faddH
  simp only [sumS, anyH]
  rw [sat_in (a := a) (by omega) (by omega), sat_in (a := b) (by omega) (by omega), satH_in (a := a) (by omega) (by omega), satH_in (a := b) (by omega) (by omega), satH_in (by omega) (by omega)]
  rfl
theorem serH_ok {z x2 : Int} (hx0 : 0 ≤ x2) (hx1 : x2 ≤ 711180000000000000) (hz : nb (2 * (z * 1073741824 - x2)) 1073741824) : ∀ (l : List Int) (h : Bool) (s p w : Int), 0 < w → (∀ k ∈ l, nb k 536870912) → nb s 1503238553 → nb (s * w - p) (4 * w) →
    serHb z h s l = h
  | [], h, s, p, w, hw, _, hs, he => rfl
  | k :: l, h, s, p, w, hw, hk, hs, he => by
    have hk0 := hk k (List.mem_cons_self ..)
    obtain ⟨e1, e2, e3⟩ := step hx0 hx1 hz hw (hk0.le (by omega)) hs he
    obtain ⟨z0, z1⟩ := z_bd hx0 hx1 hz
    simp only [serHb]
    rw [e1, mulH30 (⟨by omega, by omega⟩) (hs.le (by omega)), addHnb (hk0.le (by omega)) (e2.le (by omega)), Bool.or_false, Bool.or_false]
    refine serH_ok hx0 hx1 hz l h _ _ _ (by omega) (fun j hj => hk j (List.mem_cons_of_mem _ hj)) ?_ e3
    unfold nb at *; omega
theorem serH_app (z : Int) (k : Int) : ∀ (l : List Int) (h : Bool) (s : Int), serHb z h s (l ++ [k]) = (serHb z h s l || mulH z (serV z s l) 30 || faddH [k, mulV z (serV z s l) 30])
  | [], h, s => rfl
  | j :: l, h, s => by simp only [List.cons_append, serHb, serV]; exact serH_app z k l _ _
theorem serH_all {z x2 a : Int} {l : List Int} {h : Bool} (hx0 : 0 ≤ x2) (hx1 : x2 ≤ 711180000000000000) (hz : nb (2 * (z * 1073741824 - x2)) 1073741824) (ha : nb a 536870912) (hk : ∀ k ∈ l, nb k 536870912) :
    serHb z h a (l ++ [1073741824]) = h := by
  obtain ⟨b0, b1, b2⟩ := ser_err hx0 hx1 hz l a a 1 (by omega) hk (ha.le (by omega)) (by unfold nb; omega)
  obtain ⟨e1, e2, e3⟩ := step hx0 hx1 hz b2 (show nb 1073741824 1073741824 by unfold nb; omega) b0 b1
  obtain ⟨z0, z1⟩ := z_bd hx0 hx1 hz
  rw [serH_app, serH_ok hx0 hx1 hz l h a a 1 (by omega) hk (ha.le (by omega)) (by unfold nb; omega), mulH30 (⟨by omega, by omega⟩) (b0.le (by omega)), addHnb (by unfold nb; omega) (e2.le (by omega)), Bool.or_false, Bool.or_false]
theorem sinSH_ok {x : Int} {h : Bool} (hx : nb x 843314857) : sinSH x h = h := by
  obtain ⟨q0, q1⟩ := sqx_bd hx
  have hz := mul30 (hx.le (show (843314857 : Int) ≤ 4294967296 by omega)) (hx.le (show (843314857 : Int) ≤ 4294967296 by omega))
  have hl : sL1 = [2959, -213044, 8947849, -178956971] ++ [1073741824] := rfl
  obtain ⟨a0, a1, -⟩ := ser_all (a := -27) (l := [2959, -213044, 8947849, -178956971]) q0 q1 hz (by unfold nb; omega) (by unfold nb; simp)
  have hs := serH_all (a := -27) (l := [2959, -213044, 8947849, -178956971]) (h := h) q0 q1 hz (by unfold nb; omega) (by unfold nb; simp)
  rw [← hl] at a0 hs
  unfold sinSH
  rw [mulH30 (hx.le (by omega)) (hx.le (by omega)), Bool.or_false, hs, mulH30 (hx.le (by omega)) (a0.le (by omega)), Bool.or_false]
theorem sinGH_ok {x : Int} {h : Bool} (hx : nb x 843314857) : sinGH x h = h := by
  obtain ⟨q0, q1⟩ := sqx_bd hx
  have hz := mul30 (hx.le (show (843314857 : Int) ≤ 4294967296 by omega)) (hx.le (show (843314857 : Int) ≤ 4294967296 by omega))
  have hl : sL2 = [-296, 26631, -1491308, 44739243, -536870912] ++ [1073741824] := rfl
  have hs := serH_all (a := 2) (l := [-296, 26631, -1491308, 44739243, -536870912]) (h := h) q0 q1 hz (by unfold nb; omega) (by unfold nb; simp)
  rw [← hl] at hs
  unfold sinGH
  rw [mulH30 (hx.le (by omega)) (hx.le (by omega)), Bool.or_false, hs]
theorem sinFH_ok {w : Int} {h : Bool} (hw : nb w 1686629713) : sinFH w h = h := by
  have hf := fabs_sm (hw.le (show (1686629713 : Int) ≤ 1152921504606846975 by omega))
  unfold sinFH
  by_cases c : fabsV w ≤ 843314857
  · rw [decide_eq_true c, cond_true]
    refine sinSH_ok ?_
    rw [hf] at c; unfold nb; split at c <;> omega
  · rw [decide_eq_false c, cond_false]
    refine sinGH_ok ?_
    unfold sinX
    rw [hf] at c ⊢
    unfold nb at *
    by_cases n : w < 0
    · rw [if_pos n] at c ⊢; rw [wr_i, w64_in (by omega) (by omega)]; omega
    · rw [if_neg n] at c ⊢; rw [wr_i, w64_in (by omega) (by omega)]; omega
theorem sinH_ok {a : Int} {h : Bool} (ha : nb a 1152921504606846976) : sinH a h = h := by
  unfold nb at ha
  obtain ⟨b0, b1, -⟩ := wrap_spec a
  unfold sinH
  rw [satH_in (by omega) (by omega), Bool.or_false]
  refine sinFH_ok ?_
  unfold sinW
  rw [sat_in (a := a) (by omega) (by omega)]
  unfold nb
  by_cases c : wrapV a > 1686629713
  · rw [decide_eq_true c, cond_true, wr_i, w64_in (by omega) (by omega)]; omega
  · rw [decide_eq_false c, cond_false]
    by_cases d : wrapV a < -1686629713
    · rw [decide_eq_true d, cond_true, wr_i, w64_in (by omega) (by omega)]; omega
    · rw [decide_eq_false d, cond_false]; omega
theorem cosH_ok {a : Int} {h : Bool} : cosH a h = h := by
  obtain ⟨b0, b1, j, hj⟩ := wrap_spec a
  unfold cosH
  have e : wr IntKind.i64 (1686629713 + wrapV a) = 1686629713 + wrapV a := w64_in (by omega) (by omega)
  rw [e]
  exact sinH_ok (by unfold nb; omega)
theorem divH30 {v u : Int} (hv : nb v 576460752303423488) (hu : nb u 1152921504606846976) (hq : nb (divV (v * 1073741824) u) 1152921504606846976) (hu0 : u ≠ 0) : divPH v u 30 = false := by
  unfold nb at *
  unfold divPH byH
  have e : pow2 (Int.toNat 30) = 1073741824 := rfl
  rw [e, sat_in (a := v) (by omega) (by omega), sat_in (a := u) (by omega) (by omega), satH_in (a := v) (by omega) (by omega), satH_in (a := u) (by omega) (by omega), satH_in (a := divV (v * 1073741824) u) (by omega) (by omega)]
  have : (u == 0) = false := by simpa using hu0
  rw [this]; decide
/-- An angle's flag stays. -/
theorem atanH_ok {y x : Int} {h : Bool} (hy : nb y 576460752303423488) (hx : nb x 576460752303423488) : atanH y x h = h := by
  obtain ⟨e1, e2⟩ := mnB_eq hy hx
  have sy : satH y = false := by unfold nb at hy; exact satH_in (by omega) (by omega)
  have sx : satH x = false := by unfold nb at hx; exact satH_in (by omega) (by omega)
  unfold atanH
  rw [sy, sx, Bool.or_false, Bool.or_false]
  by_cases hz : mxV y x = 0
  · rw [cond_t (by simpa using hz)]
  · rw [cond_f (by simpa using hz)]
    have hne : y ≠ 0 ∨ x ≠ 0 := by
      rcases Int.lt_trichotomy y 0 with k | k | k
      · exact .inl (by omega)
      · rcases Int.lt_trichotomy x 0 with l | l | l
        · exact .inr (by omega)
        · exfalso; apply hz; rw [e2, k, l]; rfl
        · exact .inr (by omega)
      · exact .inl (by omega)
    obtain ⟨b0, b1, b2, b3⟩ := mB_bd hy hx hne
    obtain ⟨q1, q2, q3⟩ := divq' b0 b1 b2 (by omega)
    have et : t0V y x = quoR (mnB y x * 1073741824) (mxB y x) := by unfold t0V; rw [e1, e2, q1]
    have hd0 : divPH (mnV y x) (mxV y x) 30 = false := by
      rw [e1, e2]
      refine divH30 (by unfold nb; omega) (by unfold nb; omega) ?_ (by omega)
      rw [div_pos (by omega) (by omega)]; unfold nb; omega
    rw [et]
    unfold atanHB
    rw [et, hd0, Bool.or_false]
    generalize quoR (mnB y x * 1073741824) (mxB y x) = t at *
    have key : ∀ q : Int, nb q 444758427 → (serHb (mulV q q 30) (h || mulH q q 30) (-46684427) atL || mulH q (serV (mulV q q 30) (-46684427) atL) 30) = h := by
      intro q hq
      have h2 := hq.mul hq
      have q0 : 0 ≤ q * q := by
        rcases Int.le_total 0 q with k | k
        · exact Int.mul_nonneg k k
        · exact Int.mul_nonneg_of_nonpos_of_nonpos k k
      have q1 : q * q ≤ 197810058387514329 := by unfold nb at h2; omega
      have hz := mul30 (hq.le (show (444758427 : Int) ≤ 4294967296 by omega)) (hq.le (show (444758427 : Int) ≤ 4294967296 by omega))
      have hl : atL = [51130563, -56512728, 63161284, -71582788, 82595525, -97612893, 119304647, -153391689, 214748365, -357913941] ++ [1073741824] := rfl
      have hk : ∀ k ∈ [51130563, -56512728, 63161284, -71582788, 82595525, -97612893, 119304647, -153391689, 214748365, -357913941], nb k 536870912 := by unfold nb; simp
      obtain ⟨a0, a1, -⟩ := ser_all (a := -46684427) q0 (by omega) hz (by unfold nb; omega) hk
      have hs := serH_all (a := -46684427) (h := h) q0 (by omega) hz (by unfold nb; omega) hk
      rw [← hl] at a0 hs
      rw [mulH30 (hq.le (by omega)) (hq.le (by omega)), Bool.or_false, hs, mulH30 (hq.le (by omega)) (a0.le (by omega)), Bool.or_false]
    by_cases hb : t > 444758426
    · rw [decide_eq_true hb]
      obtain ⟨p0, p1, p2⟩ := tt_ok (t := t) (by omega) q3
      have ed : divPH (wr IntKind.i64 (t - 1073741824)) (wr IntKind.i64 (t + 1073741824)) 30 = false := by
        have w1 : wr IntKind.i64 (t - 1073741824) = t - 1073741824 := w64_in (by omega) (by omega)
        have w2 : wr IntKind.i64 (t + 1073741824) = t + 1073741824 := w64_in (by omega) (by omega)
        rw [w1, w2]
        refine divH30 (by unfold nb; omega) (by unfold nb; omega) ?_ (by omega)
        have ev : ttV true t = satV (divV ((t - 1073741824) * 1073741824) (t + 1073741824)) := by
          show divPV (wr IntKind.i64 (t - 1073741824)) (wr IntKind.i64 (t + 1073741824)) 30 = _
          rw [w1, w2]
          have e : pow2 (Int.toNat 30) = 1073741824 := rfl
          unfold divPV byV
          rw [if_neg (by decide), if_neg (by decide), e, sat_in (a := t - 1073741824) (by omega) (by omega), sat_in (a := t + 1073741824) (by omega) (by omega), if_neg (by omega)]
        rw [ev] at p0 p1
        have : satV (divV ((t - 1073741824) * 1073741824) (t + 1073741824)) = divV ((t - 1073741824) * 1073741824) (t + 1073741824) := by
          generalize divV ((t - 1073741824) * 1073741824) (t + 1073741824) = d at *
          unfold satV clampV at *
          (repeat' split at p0) <;> (repeat' split at p1) <;> (repeat' split) <;> omega
        rw [this] at p0 p1
        unfold nb; omega
      simp only [cond_true]
      rw [ed, Bool.or_false]
      exact key _ (by unfold nb; omega)
    · rw [decide_eq_false hb]
      exact key t (by unfold nb; omega)
end Go.Proofs.Ytnabopepomjncaa

/- The laws of sines, cosines and angles, in plain numbers. -/
namespace Go.Proofs.Ytnabopepomjncaa
open Go.Lr Go.Tg
set_option linter.unusedVariables false
set_option linter.unusedSimpArgs false

/-- From nought to a quarter the sine is not below nought. -/
theorem SG_nn {w : Int} (h0 : 0 ≤ w) (h1 : w ≤ 1686629713) : 0 ≤ SG w := by
  have e : SG w = sinF w := by
    unfold SG
    rw [wrap_unique (a := w) (w := w) (k := 0) (by omega) (by omega) (by omega)]
    congr 1
    unfold foldV; (repeat' split) <;> omega
  have hf := fabs_sm (w := w) (by unfold nb; omega)
  rw [if_neg (by omega)] at hf
  rw [e]
  unfold sinF
  rw [hf]
  have mmn : ∀ s : Int, 0 ≤ s → 0 ≤ mmV s := by intro s hs; rw [mm_def]; (repeat' split) <;> omega
  by_cases c : w ≤ 843314857
  · rw [decide_eq_true c, cond_true]
    refine mmn _ ?_
    have hx : nb w 843314857 := by unfold nb; omega
    obtain ⟨q0, q1⟩ := sqx_bd hx
    have hz := mul30 (hx.le (show (843314857 : Int) ≤ 4294967296 by omega)) (hx.le (show (843314857 : Int) ≤ 4294967296 by omega))
    have hk : ∀ k ∈ [2959, -213044, 8947849, -178956971], nb k 536870912 := by unfold nb; simp
    obtain ⟨b0, b1, b2⟩ := ser_err q0 q1 hz [2959, -213044, 8947849, -178956971] (-27) (-27) 1 (by omega) hk (by unfold nb; omega) (by unfold nb; omega)
    obtain ⟨e1, e2, e3⟩ := step q0 q1 hz b2 (show nb 1073741824 1073741824 by unfold nb; omega) b0 b1
    have hs := ser_app (mulV w w 30) 1073741824 [2959, -213044, 8947849, -178956971] (-27)
    rw [e1] at hs
    unfold sinS0
    rw [show sL1 = [2959, -213044, 8947849, -178956971] ++ [1073741824] from rfl, hs]
    generalize mulV (mulV w w 30) (serV (mulV w w 30) (-27) [2959, -213044, 8947849, -178956971]) 30 = m at *
    have hS : nb (1073741824 + m) 2001141824 := by unfold nb at *; omega
    have hm := mul30 (hx.le (show (843314857 : Int) ≤ 4294967296 by omega)) (hS.le (show (2001141824 : Int) ≤ 4294967296 by omega))
    have := Int.mul_nonneg h0 (show 0 ≤ 1073741824 + m by unfold nb at e2; omega)
    unfold nb at hm; omega
  · rw [decide_eq_false c, cond_false, decide_eq_false (show ¬ w < 0 by omega)]
    refine mmn _ ?_
    have ex : sinX w = 1686629713 - w := by unfold sinX; rw [hf, wr_i, w64_in (by omega) (by omega)]
    rw [ex]
    have hx : nb (1686629713 - w) 843314857 := by unfold nb; omega
    generalize 1686629713 - w = x at *
    obtain ⟨q0, q1⟩ := sqx_bd hx
    have hz := mul30 (hx.le (show (843314857 : Int) ≤ 4294967296 by omega)) (hx.le (show (843314857 : Int) ≤ 4294967296 by omega))
    have hk : ∀ k ∈ [-296, 26631, -1491308, 44739243, -536870912], nb k 536870912 := by unfold nb; simp
    obtain ⟨b0, b1, b2⟩ := ser_err q0 q1 hz [-296, 26631, -1491308, 44739243, -536870912] 2 2 1 (by omega) hk (by unfold nb; omega) (by unfold nb; omega)
    obtain ⟨e1, e2, e3⟩ := step q0 q1 hz b2 (show nb 1073741824 1073741824 by unfold nb; omega) b0 b1
    have hs := ser_app (mulV x x 30) 1073741824 [-296, 26631, -1491308, 44739243, -536870912] 2
    rw [e1] at hs
    show 0 ≤ serV (mulV x x 30) 2 sL2
    rw [show sL2 = [-296, 26631, -1491308, 44739243, -536870912] ++ [1073741824] from rfl, hs]
    unfold nb at e2; omega
theorem Sp_low {w : Int} (h0 : 0 ≤ w) (h1 : w ≤ 1686629713) : -(6 * MN) ≤ 1073741824 * Sp w := by
  have h := SG_err (w := w) (by unfold nb; omega)
  have n := SG_nn h0 h1
  have := Int.mul_nonneg (Int.le_of_lt MN_pos) n
  unfold nb at h
  generalize MN * SG w = X at *
  have := MN_pos
  omega
theorem Cp_low {w : Int} (h : nb w 1686629713) : -(6 * MN) ≤ 1073741824 * Cp w := by
  have e := CG_err h
  have n : 0 ≤ CG w := by
    unfold nb at h
    rcases Int.le_total 0 w with k | k
    · have := SG_nn (w := 1686629713 - w) (by omega) (by omega)
      rw [SG_co] at this; exact this
    · have := SG_nn (w := 1686629713 + w) (by omega) (by omega)
      unfold CG; exact this
  have := Int.mul_nonneg (Int.le_of_lt MN_pos) n
  unfold nb at e
  generalize MN * CG w = X at *
  have := MN_pos
  omega
theorem chk12 : leB (1073741824 * lip sinL 1700000000) (3 * MN) = true := by kernel_rfl
theorem nn_prod {M a b : Int} (hM : 0 < M) (ha : -(6 * M) ≤ 1073741824 * a) (ha1 : 1073741824 * a ≤ 1073741900 * M) (hb : -(6 * M) ≤ 1073741824 * b) (hb1 : 1073741824 * b ≤ 1073741900 * M) : -(7 * (M * M)) ≤ 1073741824 * (a * b) := by
  have hMM : 0 ≤ M * M := Int.mul_nonneg (by omega) (by omega)
  have h1 := Int.mul_nonneg (show 0 ≤ 1073741824 * a + 6 * M by omega) (show 0 ≤ 1073741824 * b + 6 * M by omega)
  have e1 : (1073741824 * a + 6 * M) * (1073741824 * b + 6 * M) = 1152921504606846976 * (a * b) + 6442450944 * (M * a) + 6442450944 * (M * b) + 36 * (M * M) := by grind
  have h2 := Int.mul_le_mul_of_nonneg_left ha1 (show 0 ≤ M by omega)
  have h3 := Int.mul_le_mul_of_nonneg_left hb1 (show 0 ≤ M by omega)
  have e2 : M * (1073741824 * a) = 1073741824 * (M * a) := by grind
  have e3 : M * (1073741824 * b) = 1073741824 * (M * b) := by grind
  have e4 : M * (1073741900 * M) = 1073741900 * (M * M) := by grind
  -- a b is below nought for opposite signs alone
  rcases Int.le_total 0 a with k | k
  · rcases Int.le_total 0 b with l | l
    · have := Int.mul_nonneg k l; omega
    · have h4 := Int.mul_nonneg k (show 0 ≤ 1073741824 * b + 6 * M by omega)
      have e5 : a * (1073741824 * b + 6 * M) = 1073741824 * (a * b) + 6 * (M * a) := by grind
      rw [e5] at h4; rw [e2, e4] at h2
      omega
  · rcases Int.le_total 0 b with l | l
    · have h4 := Int.mul_nonneg l (show 0 ≤ 1073741824 * a + 6 * M by omega)
      have e5 : b * (1073741824 * a + 6 * M) = 1073741824 * (a * b) + 6 * (M * b) := by grind
      rw [e5] at h4; rw [e3, e4] at h3
      omega
    · have := Int.mul_nonneg_of_nonpos_of_nonpos k l; omega
theorem up_bd {M s : Int} (hM : 0 < M) (h : nb (2199023255552 * s) (2199023255553 * M)) : 1073741824 * s ≤ 1073741900 * M := by unfold nb at h; omega
/-- The sine rises. -/
theorem rise {a b : Int} (h0 : -1686629713 ≤ a) (h1 : b ≤ 1686629713) (hab : a ≤ b) : SG a ≤ SG b + 64 := by
  have hM := MN_pos
  have hm : ∃ m h : Int, m + h = b ∧ (m - h = a ∨ m - h = a - 1) ∧ 0 ≤ h ∧ h ≤ 1686629713 ∧ -1686629713 ≤ m ∧ m ≤ 1686629713 := ⟨(a + b) / 2, b - (a + b) / 2, by omega, by omega, by omega, by omega, by omega, by omega⟩
  obtain ⟨m, h, e1, e2, g0, g1, g2, g3⟩ := hm
  have mn : nb m 1700000000 := by unfold nb; omega
  have hn : nb h 1700000000 := by unfold nb; omega
  have s1 := add_s mn hn
  have s2 := add_s mn hn.neg
  rw [Cp_neg, Sp_neg, e1] at *
  have p := nn_prod hM (Cp_low (w := m) (by unfold nb; omega)) (up_bd hM (Cp_one mn)) (Sp_low g0 g1) (up_bd hM (Sp_one hn))
  have ea := SG_err (w := a) (by unfold nb; omega)
  have eb := SG_err (w := b) (by unfold nb; omega)
  have hl : nb (1073741824 * (Sp (m + -h) - Sp a)) (3 * MN) := by
    have l := nb.of (pv_lip (x := m + -h) (y := a) (R := 1700000000) (d := 1) (by omega) (by omega) (by omega) sinL)
    have c := leB_le chk12
    change nb (Sp (m + -h) - Sp a) (1 * lip sinL 1700000000) at l
    generalize Sp (m + -h) - Sp a = D at *
    generalize lip sinL 1700000000 = L at *
    unfold nb at *
    omega
  -- the reference's sines
  have key : -(20 * MN) ≤ 1073741824 * (Sp b - Sp (m + -h)) := by
    have e : MN * (Sp b - Sp (m + -h)) = 2 * (Cp m * Sp h) - (Sp m * Cp h + Cp m * Sp h - MN * Sp b) + (Sp m * Cp h + Cp m * -Sp h - MN * Sp (m + -h)) := by grind
    refine Int.le_of_mul_le_mul_left ?_ hM
    have e3 : MN * -(20 * MN) = -(20 * (MN * MN)) := by grind
    have e4 : MN * (1073741824 * (Sp b - Sp (m + -h))) = 1073741824 * (MN * (Sp b - Sp (m + -h))) := by grind
    rw [e3, e4, e]
    have hMM : 0 ≤ MN * MN := Int.mul_nonneg (by omega) (by omega)
    unfold nb at s1 s2
    generalize Sp m * Cp h + Cp m * Sp h - MN * Sp b = A at *
    generalize Sp m * Cp h + Cp m * -Sp h - MN * Sp (m + -h) = B at *
    generalize Cp m * Sp h = P at *
    generalize MN * MN = MM at *
    omega
  rcases Int.lt_or_le (SG b + 64) (SG a) with g | g
  · exfalso
    have := Int.mul_le_mul_of_nonneg_left (show SG b + 65 ≤ SG a by omega) (show 0 ≤ MN by omega)
    rw [show MN * (SG b + 65) = MN * SG b + 65 * MN by grind] at this
    unfold nb at *
    generalize MN * SG a = X at *
    generalize MN * SG b = Y at *
    generalize Sp (m + -h) = sm at *
    generalize Sp a = sa at *
    generalize Sp b = sb at *
    generalize MN = M at *
    omega
  · exact g
theorem fall {a b : Int} (h0 : 0 ≤ a) (h1 : b ≤ 1686629713) (hab : a ≤ b) : CG b ≤ CG a + 64 := by
  have := rise (a := 1686629713 - b) (b := 1686629713 - a) (by omega) (by omega) (by omega)
  rw [SG_co, SG_co] at this
  exact this
/-- A sum of two products. -/
theorem dot2 {x0 x1 y0 y1 : Int} (a0 : nb x0 4294967296) (a1 : nb x1 4294967296) (b0 : nb y0 4294967296) (b1 : nb y1 4294967296) :
    nb (2 * (dotV 30 [x0, x1] [y0, y1] * 1073741824 - (x0 * y0 + x1 * y1))) 1073741824 ∧ dotH 30 [x0, x1] [y0, y1] = false := by
  have m0 := a0.mul b0
  have m1 := a1.mul b1
  unfold nb at a0 a1 b0 b1 m0 m1
  have e : dotS [x0, x1] [y0, y1] = x0 * y0 + x1 * y1 := by
    simp only [dotS]
    rw [sat_in (a := x0) (by omega) (by omega), sat_in (a := x1) (by omega) (by omega), sat_in (a := y0) (by omega) (by omega), sat_in (a := y1) (by omega) (by omega)]
    omega
  have f : dotFl [x0, x1] [y0, y1] = false := by
    simp only [dotFl]
    rw [satH_in (a := x0) (by omega) (by omega), satH_in (a := x1) (by omega) (by omega), satH_in (a := y0) (by omega) (by omega), satH_in (a := y1) (by omega) (by omega)]
    rfl
  have hb := rnd_bd (x0 * y0 + x1 * y1) 30
  rw [show pow2 30 = 1073741824 from rfl] at hb
  have g : rndS (x0 * y0 + x1 * y1) 30 = rndV (x0 * y0 + x1 * y1) 30 ∧ rndH (x0 * y0 + x1 * y1) 30 = false := by
    unfold rndS rndH
    rw [if_neg (by decide), if_neg (by decide), show Int.toNat 30 = 30 from rfl, sat_in (by omega) (by omega), satH_in (by omega) (by omega)]
    exact ⟨rfl, by decide⟩
  constructor
  · show nb (2 * (rndS (dotS [x0, x1] [y0, y1]) 30 * 1073741824 - (x0 * y0 + x1 * y1))) 1073741824
    rw [e, g.1]; exact hb
  · show (dotFl [x0, x1] [y0, y1] || rndH (dotS [x0, x1] [y0, y1]) 30) = false
    rw [e, f, g.2]; rfl
theorem sums_s (a b : Int) : nb (dotV 30 [SG a, CG a] [CG b, SG b] - SG (a + b)) 29 := by
  obtain ⟨d, -⟩ := dot2 ((SG_bd a).le (show (1073741824 : Int) ≤ 4294967296 by omega)) ((CG_bd a).le (show (1073741824 : Int) ≤ 4294967296 by omega)) ((CG_bd b).le (show (1073741824 : Int) ≤ 4294967296 by omega)) ((SG_bd b).le (show (1073741824 : Int) ≤ 4294967296 by omega))
  have h := (sum_all a b).2
  unfold nb at *; omega
theorem sums_c (a b : Int) : nb (dotV 30 [CG a, -SG a] [CG b, SG b] - CG (a + b)) 29 := by
  obtain ⟨d, -⟩ := dot2 ((CG_bd a).le (show (1073741824 : Int) ≤ 4294967296 by omega)) ((SG_bd a).neg.le (show (1073741824 : Int) ≤ 4294967296 by omega)) ((CG_bd b).le (show (1073741824 : Int) ≤ 4294967296 by omega)) ((SG_bd b).le (show (1073741824 : Int) ≤ 4294967296 by omega))
  have h := (sum_all a b).1
  rw [Int.neg_mul] at d
  unfold nb at *; omega
theorem circle (a : Int) : nb (dotV 30 [SG a, CG a] [SG a, CG a] - 1073741824) 29 ∧ dotH 30 [SG a, CG a] [SG a, CG a] = false := by
  obtain ⟨d, f⟩ := dot2 ((SG_bd a).le (show (1073741824 : Int) ≤ 4294967296 by omega)) ((CG_bd a).le (show (1073741824 : Int) ≤ 4294967296 by omega)) ((SG_bd a).le (show (1073741824 : Int) ≤ 4294967296 by omega)) ((CG_bd a).le (show (1073741824 : Int) ≤ 4294967296 by omega))
  have h := on_circle a
  refine ⟨?_, f⟩
  unfold nb at *; omega
/-- Beyond a quarter the cosine is not above nought. -/
theorem CG_np {w : Int} (h0 : 1686629713 < w ∨ w < -1686629713) (h : nb w 3373259426) : CG w ≤ 0 := by
  have key : ∀ v : Int, 1686629713 < v → v ≤ 3373259426 → CG v ≤ 0 := by
    intro v v0 v1
    have e := CG_half v
    have n := SG_nn (w := 1686629713 - (3373259426 - v)) (by omega) (by omega)
    rw [SG_co] at n
    omega
  unfold nb at h
  rcases h0 with h0 | h0
  · exact key w h0 (by omega)
  · have := key (-w) (by omega) (by omega)
    rwa [CG_neg] at this
/-- An angle whose sine is small, and whose cosine is above nought, is small. -/
theorem ang_small {w w0 K : Int} (h : nb w 3373259426) (hc : 0 < CG w) (hs : nb (SG w) K) (e : SG w0 = w0) (h0 : 0 ≤ w0) (h1 : w0 ≤ 1686629713) (hK : K + 64 < w0) : nb w w0 := by
  have hq : nb w 1686629713 := by
    rcases Int.lt_or_le 1686629713 w with k | k
    · have := CG_np (.inl k) h; omega
    · rcases Int.lt_or_le w (-1686629713) with l | l
      · have := CG_np (.inr l) h; omega
      · exact ⟨l, k⟩
  unfold nb at hq hs
  constructor
  · rcases Int.lt_or_le w (-w0) with k | k
    · exfalso
      have := rise (a := w0) (b := -w) (by omega) (by omega) (by omega)
      rw [SG_neg, e] at this
      omega
    · exact k
  · rcases Int.lt_or_le w0 w with k | k
    · exfalso
      have := rise (a := w0) (b := w) (by omega) (by omega) (by omega)
      rw [e] at this
      omega
    · exact k
theorem big_side {s k : Int} (h : 1000000000000000000 ≤ k * k + s * s) (hs : nb s 1073741824) (hk : nb k 1073741824) : 700000000 ≤ mxB s k ∧ mxB s k ≤ 1073741824 := by
  have hu : nb s (mxB s k) ∧ nb k (mxB s k) := by
    unfold mxB absV nb; (repeat' split) <;> omega
  have h1 : mxB s k ≤ 1073741824 := by unfold nb at hs hk; unfold mxB absV; (repeat' split) <;> omega
  refine ⟨?_, h1⟩
  generalize mxB s k = u at *
  obtain ⟨a, b⟩ := hu
  have a2 := (a.mul a).2
  have b2 := (b.mul b).2
  rcases Int.lt_or_le u 700000000 with g | g
  · exfalso
    have u0 : 0 ≤ u := by unfold nb at a; omega
    have : u * u ≤ 699999999 * 699999999 := Int.mul_le_mul (by omega) (by omega) u0 (by omega)
    omega
  · exact g
theorem CG_wrap (a : Int) : CG (wrapV a) = CG a := by
  obtain ⟨b0, b1, k, hk⟩ := wrap_spec a
  unfold CG
  rw [← SG_per (1686629713 + wrapV a) k]
  congr 1; omega
/-- Where a point near the circle at the angle a lies: at a. -/
theorem back_ang {a y x E K w0 : Int} (ey : nb (y - SG a) E) (ex : nb (x - CG a) E) (hE0 : 0 ≤ E) (hE : E ≤ 1000000) (hK : 111 + 2 * E ≤ K) (e : SG w0 = w0) (h0 : 0 ≤ w0) (h1 : w0 ≤ 1686629713) (hw : K + 64 < w0) :
    nb (wrapV (atanV y x - a)) w0 := by
  have sa := SG_bd a
  have ca := CG_bd a
  have oc := on_circle a
  obtain ⟨u0, u1⟩ := big_side (s := SG a) (k := CG a) (by unfold nb at oc; omega) sa ca
  have hy : nb y 1074741824 := by unfold nb at *; omega
  have hx : nb x 1074741824 := by unfold nb at *; omega
  have v0 : 699000000 ≤ mxB y x ∧ mxB y x ≤ 1074741824 := by
    unfold nb at *
    unfold mxB absV at *
    (repeat' split at u0) <;> (repeat' split) <;> omega
  have hne : y ≠ 0 ∨ x ≠ 0 := by
    rcases Int.lt_trichotomy y 0 with k | k | k
    · exact .inl (by omega)
    · rcases Int.lt_trichotomy x 0 with l | l | l
      · exact .inr (by omega)
      · exfalso; rw [k, l] at v0; have : mxB 0 0 = 0 := by decide
        omega
      · exact .inr (by omega)
    · exact .inl (by omega)
  obtain ⟨d1, d2⟩ := atan_dir (hy.le (by omega)) (hx.le (by omega)) hne
  obtain ⟨f1, f2⟩ := dif_all a (atanV y x)
  have w1 : wrapV (atanV y x - a) = wrapV (atanV y x - a) := rfl
  obtain ⟨b0, b1, -⟩ := wrap_spec (atanV y x - a)
  have es : SG (wrapV (atanV y x - a)) = -SG (a - atanV y x) := by rw [SG_wrap, ← SG_neg]; congr 1; omega
  have ec : CG (wrapV (atanV y x - a)) = CG (a - atanV y x) := by rw [CG_wrap, ← CG_neg]; congr 1; omega
  generalize wrapV (atanV y x - a) = w at *
  generalize atanV y x = r at *
  have sr := SG_bd r
  have cr := CG_bd r
  have p1 := ey.mul cr
  have p2 := ex.mul sr
  have p3 := ex.mul cr
  have p4 := ey.mul sr
  have g1 : SG a * CG r - CG a * SG r = (y * CG r - x * SG r) - (y - SG a) * CG r + (x - CG a) * SG r := by grind
  have g2 : CG a * CG r + SG a * SG r = (x * CG r + y * SG r) - (x - CG a) * CG r - (y - SG a) * SG r := by grind
  rw [g1] at f2
  rw [g2] at f1
  refine ang_small (K := K) (w0 := w0) (by unfold nb; omega) ?_ ?_ e h0 h1 hw
  · rw [ec]
    unfold nb at f1 p3 p4
    generalize (x - CG a) * CG r = A at *
    generalize (y - SG a) * SG r = B at *
    generalize x * CG r + y * SG r = D at *
    omega
  · rw [es]
    refine nb.neg ?_
    unfold nb at f2 p1 p2 d1 ⊢
    generalize (y - SG a) * CG r = A at *
    generalize (x - CG a) * SG r = B at *
    generalize y * CG r - x * SG r = D at *
    omega

/-- The angle of a sine. -/
theorem atan_pos {y x : Int} (hy : nb y 576460752303423488) (hx : nb x 576460752303423488) (y0 : 0 < y) (x0 : 0 < x) (hd : mxB y x ≤ 2000000000) : 0 < atanV y x := by
  obtain ⟨b0, b1, b2, b3⟩ := mB_bd hy hx (.inl (by omega))
  obtain ⟨q1, q2, q3⟩ := divq' b0 b1 b2 (by omega)
  obtain ⟨-, c0, c1, c2, -⟩ := core_dir q2 q3
  have hb := quo_bd (a := mnB y x * 1073741824) (b := mxB y x) (by omega) (by omega)
  have hm : 1 ≤ mnB y x := by unfold mnB absV; (repeat' split) <;> omega
  have hq : 0 < quoR (mnB y x * 1073741824) (mxB y x) := by
    rcases Int.lt_or_le 0 (quoR (mnB y x * 1073741824) (mxB y x)) with g | g
    · exact g
    · exfalso
      have e0 : quoR (mnB y x * 1073741824) (mxB y x) = 0 := by omega
      rw [e0] at hb
      omega
  rw [atanV_eq hy hx (.inl (by omega))]
  have := c2 hq
  unfold angB
  rw [if_neg (by omega), if_neg (by omega)]
  split <;> omega
theorem atan_odd {y x : Int} (hy : nb y 576460752303423488) (hx : nb x 576460752303423488) (y0 : y < 0) : atanV y x = -atanV (-y) x := by
  rw [atanV_eq hy hx (.inl (by omega)), atanV_eq hy.neg hx (.inl (by omega))]
  have e1 : mnB (-y) x = mnB y x ∧ mxB (-y) x = mxB y x ∧ absV (-y) = absV y := by
    refine ⟨?_, ?_, absV_negate y⟩
    · unfold mnB; rw [absV_negate]
    · unfold mxB; rw [absV_negate]
  rw [e1.1, e1.2.1]
  unfold angB
  rw [e1.2.2, if_pos y0, if_neg (show ¬ -y < 0 by omega)]
theorem sqnn0 (a : Int) : 0 ≤ a * a := by
  rcases Int.le_total 0 a with k | k
  · exact Int.mul_nonneg k k
  · exact Int.mul_nonneg_of_nonpos_of_nonpos k k
theorem absSq9 (a : Int) : absV a * absV a = a * a := by rw [← absV_mul, absV_pos (sqnn0 a)]
theorem sq_bound {D A : Int} (h0 : 0 ≤ D) (hA : 0 ≤ A) (h : D * D ≤ A * A) : D ≤ A := by
  rcases Int.lt_or_le A D with g | g
  · exfalso
    have : (A + 1) * (A + 1) ≤ D * D := Int.mul_le_mul (by omega) (by omega) (by omega) h0
    have e : (A + 1) * (A + 1) = A * A + 2 * A + 1 := by grind
    omega
  · exact g
/-- A point on the circle whose angle is known. -/
theorem on_arc {a X C S : Int} (hP : nb (a * a + X * X - 1152921504606846976) 2147483648) (hR : nb (C * C + S * S - 1152921504606846976) 30064771072) (hE : nb (a * C - X * S) 88046829568) (hD : 0 ≤ X * C + a * S) (ha : nb a 1073741824) (hX : nb X 1073741826) (hS : nb S 1073741824) : nb (S - a) 200 := by
  have e1 : (X * C + a * S) * (X * C + a * S) = (a * a + X * X) * (C * C + S * S) - (a * C - X * S) * (a * C - X * S) := by grind
  have e2 : 1152921504606846976 * (S - a) = a * (X * C + a * S - 1152921504606846976) - X * (a * C - X * S) - S * (a * a + X * X - 1152921504606846976) := by grind
  have q1 := hP.mul hR
  have q2 := (hE.mul hE)
  have q0 : 0 ≤ (a * C - X * S) * (a * C - X * S) := by
    rcases Int.le_total 0 (a * C - X * S) with k | k
    · exact Int.mul_nonneg k k
    · exact Int.mul_nonneg_of_nonpos_of_nonpos k k
  have x1 := hX.mul hE
  have x2 := hS.mul hP
  have e3 : (a * a + X * X) * (C * C + S * S) = (a * a + X * X - 1152921504606846976) * (C * C + S * S - 1152921504606846976) + 1152921504606846976 * (a * a + X * X - 1152921504606846976) + 1152921504606846976 * (C * C + S * S - 1152921504606846976) + 1152921504606846976 * 1152921504606846976 := by grind
  generalize a * a + X * X - 1152921504606846976 = P at *
  generalize C * C + S * S - 1152921504606846976 = R at *
  have hd : nb (X * C + a * S - 1152921504606846976) 40802189312 := by
    generalize (a * C - X * S) * (a * C - X * S) = EE at *
    generalize (a * a + X * X) * (C * C + S * S) = PR at *
    generalize P * R = pr at *
    generalize X * C + a * S = D at *
    unfold nb at *
    constructor
    · rcases Int.lt_or_le D (1152921504606846976 - 40802189312) with g | g
      · exfalso
        have : D * D ≤ (1152921504606846976 - 40802189312) * (1152921504606846976 - 40802189312) := Int.mul_le_mul (by omega) (by omega) hD (by omega)
        omega
      · omega
    · rcases Int.lt_or_le (1152921504606846976 + 40802189312) D with g | g
      · exfalso
        have : (1152921504606846976 + 40802189312) * (1152921504606846976 + 40802189312) ≤ D * D := Int.mul_le_mul (by omega) (by omega) (by omega) (by omega)
        omega
      · omega
  have x3 := ha.mul hd
  generalize a * (X * C + a * S - 1152921504606846976) = A at *
  generalize X * (a * C - X * S) = B at *
  generalize S * P = Z at *
  unfold nb at *
  omega
/-- The other side of a sine. -/
def arcX (a : Int) : Int := sqrtV (1073741824 - mulV a a 30)
theorem arcX_ok {a : Int} (ha : nb a 1063004382) : nb (a * a + arcX a * arcX a - 1152921504606846976) 2147483648 ∧ 100000000 ≤ arcX a ∧ arcX a ≤ 1073741825 ∧ sqrtH (1073741824 - mulV a a 30) = false ∧ nb (2 * (mulV a a 30 * 1073741824 - a * a)) 1073741824 ∧ 0 ≤ mulV a a 30 ∧ mulV a a 30 ≤ 1073741824 := by
  have hm := mul30 (ha.le (show (1063004382 : Int) ≤ 4294967296 by omega)) (ha.le (show (1063004382 : Int) ≤ 4294967296 by omega))
  have h2 := (ha.mul ha).2
  have q0 : 0 ≤ a * a := by
    rcases Int.le_total 0 a with k | k
    · exact Int.mul_nonneg k k
    · exact Int.mul_nonneg_of_nonpos_of_nonpos k k
  unfold arcX
  generalize mulV a a 30 = m at *
  have m0 : 0 ≤ m ∧ m ≤ 1052375000 := by unfold nb at hm; omega
  have es : satV (1073741824 - m) = 1073741824 - m := sat_in (by omega) (by omega)
  obtain ⟨r0, r1, r2⟩ := rootW_spec (N := (1073741824 - m) * 1073741824) (by omega) (by omega)
  have hr1 : rootW ((1073741824 - m) * 1073741824) ≤ 1073741825 := root_le (by omega) (by omega) (by omega) (by omega)
  have hr0 : 100000000 ≤ rootW ((1073741824 - m) * 1073741824) := root_ge (by omega) (by omega) (.inr (by omega))
  have ev : sqrtV (1073741824 - m) = rootW ((1073741824 - m) * 1073741824) := by
    unfold sqrtV
    rw [es, if_neg (by omega), sat_in (by omega) (by omega)]
  have ef : sqrtH (1073741824 - m) = false := by
    unfold sqrtH
    rw [es, satH_in (by omega) (by omega), satH_in (a := rootW ((1073741824 - m) * 1073741824)) (by omega) (by omega), decide_eq_false (by omega)]
    rfl
  rw [ev]
  generalize rootW ((1073741824 - m) * 1073741824) = X at *
  refine ⟨?_, hr0, hr1, ef, hm, by omega, by omega⟩
  unfold nb at *
  generalize X * X = XX at *
  generalize a * a = aa at *
  omega
theorem arcs {a : Int} (ha : nb a 1063004382) : nb (SG (atanV a (arcX a)) - a) 200 ∧ (0 < a → 0 < atanV a (arcX a)) ∧ (a = 0 → atanV a (arcX a) = 0) ∧ (a < 0 → atanV a (arcX a) < 0) ∧ nb (atanV a (arcX a)) 3373259426 := by
  obtain ⟨p, x0, x1, -, -, -, -⟩ := arcX_ok ha
  generalize arcX a = X at *
  have an : nb a 576460752303423488 := ha.le (by omega)
  have xn : nb X 576460752303423488 := by unfold nb; omega
  obtain ⟨d1, d2⟩ := atan_dir an xn (.inr (by omega))
  obtain ⟨s1, s2, s3, s4, s5⟩ := atan_sg an xn (.inr (by omega))
  have hu : 0 ≤ mxB a X ∧ mxB a X ≤ 1073741825 := by unfold nb at ha; unfold mxB absV; (repeat' split) <;> omega
  refine ⟨?_, ?_, ?_, ?_, s1⟩
  · have oc := on_circle (atanV a X)
    exact on_arc p oc (d1.le (by omega)) (by omega) (ha.le (by omega)) (by unfold nb; omega) (SG_bd _)
  · intro h
    exact atan_pos an xn h (by omega) (by omega)
  · intro h
    have := s2 (by omega); have := s3 (by omega) (by omega); omega
  · intro h
    rw [atan_odd an xn h]
    have : 0 < atanV (-a) X := by
      refine atan_pos an.neg xn (by omega) (by omega) ?_
      unfold nb at ha; unfold mxB absV; (repeat' split) <;> omega
    omega
end Go.Proofs.Ytnabopepomjncaa

/- Levels: a heading's Unit has no second and third number; divisions by what is about One. -/
namespace Go.Proofs.Ytnabopepomjncaa
open Go.Lr
set_option linter.unusedVariables false
set_option linter.unusedSimpArgs false

theorem div_z (d : Int) : divPV 0 d 30 = 0 := by
  have e : pow2 (Int.toNat 30) = 1073741824 := rfl
  have s0 : satV 0 = 0 := by rw [sat_in (by omega) (by omega)]
  unfold divPV byV
  rw [if_neg (by decide), if_neg (by decide), e, s0, Int.zero_mul]
  by_cases h : satV d = 0
  · rw [if_pos h, if_pos rfl]
  · rw [if_neg h]
    unfold divV
    have : quoR (absV 0) (absV (satV d)) = 0 := by
      rw [show absV 0 = 0 from rfl]
      exact quoR_zero (by unfold absV; split <;> omega)
    rw [this]
    have g : ∀ b : Bool, sgn b 0 = 0 := by intro b; cases b <;> rfl
    rw [g, s0]
theorem unit_z (a d : Int) : uV1 a 0 0 d = 0 ∧ uV2 a 0 0 d = 0 := by
  have s0 : satV 0 = 0 := by rw [sat_in (by omega) (by omega)]
  unfold uV1 uV2 uE
  rw [s0, div_z, div_z]
  cases uZ a 0 0 d <;> exact ⟨rfl, rfl⟩
theorem fy_ok (a : Int) : UnitQ (fy0 a) 0 0 (fy3 a) ∧ fy1 a = 0 ∧ fy2 a = 0 := by
  have h := unit_ok (cosV (fyA a)) 0 0 (sinV (fyA a))
  have z := unit_z (cosV (fyA a)) (sinV (fyA a))
  rw [z.1, z.2] at h
  exact ⟨h, z.1, z.2⟩
/-- Divided by what is about One. -/
theorem dgen {v u : Int} (h0 : -1099511627776 ≤ v) (h1 : v ≤ 1099511627776) (h2 : 536870912 ≤ u) (h3 : u ≤ 2147483648) :
    (-u ≤ 2 * (divPV v u 30 * u - v * 1073741824) ∧ 2 * (divPV v u 30 * u - v * 1073741824) ≤ u) ∧ (-4398046511104 ≤ divPV v u 30 ∧ divPV v u 30 ≤ 4398046511104) ∧ divPH v u 30 = false := by
  have key : ∀ w : Int, 0 ≤ w → -u ≤ 2 * (divV (w * 1073741824) u * u - w * 1073741824) ∧ 2 * (divV (w * 1073741824) u * u - w * 1073741824) ≤ u := by
    intro w w0
    rw [div_pos (a := w * 1073741824) (b := u) (by omega) (by omega)]
    exact quo_bd (by omega) (by omega)
  have odd : ∀ w : Int, divV (-w) u = -divV w u := by
    intro w
    unfold divV
    rw [absV_negate]
    have hu : decide (u < 0) = false := by simp; omega
    rw [hu]
    by_cases g0 : w = 0
    · subst g0
      have : quoR (absV 0) (absV u) = 0 := by
        rw [show absV 0 = 0 from rfl]
        exact quoR_zero (by unfold absV; split <;> omega)
      rw [this]; rfl
    · by_cases g1 : w < 0
      · have e1 : decide (w < 0) = true := by simpa using g1
        have e2 : decide (-w < 0) = false := by simp; omega
        rw [e1, e2]; unfold sgn; simp
      · have e1 : decide (w < 0) = false := by simp; omega
        have e2 : decide (-w < 0) = true := by simp; omega
        rw [e1, e2]; unfold sgn; simp
  have hd : -u ≤ 2 * (divV (v * 1073741824) u * u - v * 1073741824) ∧ 2 * (divV (v * 1073741824) u * u - v * 1073741824) ≤ u := by
    by_cases h : 0 ≤ v
    · exact key v h
    · have k := key (-v) (by omega)
      rw [show -v * 1073741824 = -(v * 1073741824) by omega, odd, Int.neg_mul] at k
      omega
  have e : pow2 (Int.toNat 30) = 1073741824 := rfl
  have hb : -4398046511104 ≤ divV (v * 1073741824) u ∧ divV (v * 1073741824) u ≤ 4398046511104 := by
    generalize divV (v * 1073741824) u = t at *
    constructor
    · rcases Int.lt_or_le t (-4398046511104) with h | h
      · exfalso
        have : t * u ≤ -4398046511105 * u := Int.mul_le_mul_of_nonneg_right (by omega) (by omega)
        omega
      · exact h
    · rcases Int.lt_or_le 4398046511104 t with h | h
      · exfalso
        have : 4398046511105 * u ≤ t * u := Int.mul_le_mul_of_nonneg_right (by omega) (by omega)
        omega
      · exact h
  have ev : divPV v u 30 = divV (v * 1073741824) u := by
    unfold divPV byV
    rw [if_neg (by decide), if_neg (by decide), e, sat_in (a := v) (by omega) (by omega), sat_in (a := u) (by omega) (by omega), if_neg (by omega), sat_in (by omega) (by omega)]
  refine ⟨by rw [ev]; exact hd, by rw [ev]; exact hb, ?_⟩
  unfold divPH byH
  rw [e, sat_in (a := v) (by omega) (by omega), sat_in (a := u) (by omega) (by omega), satH_in (a := v) (by omega) (by omega), satH_in (a := u) (by omega) (by omega), satH_in (a := divV (v * 1073741824) u) (by omega) (by omega)]
  have : (u == 0) = false := by simp; omega
  rw [this]; rfl
/-- A level's matrix: its last entry is about One. -/
theorem lev8 {a d : Int} (h : UnitQ a 0 0 d) : 1073741820 ≤ rm8 a 0 0 d ∧ rm8 a 0 0 d ≤ 1073741828 := by
  obtain ⟨-, -, -, -, -, -, -, -, e8, -⟩ := rm_eq h.ha h.hb h.hc h.hd
  rw [e8]
  have r := rn_rnd (mx8 a 0 0 d)
  have hn := h.hn
  unfold nearU n4 at hn
  unfold RN at r
  generalize rndV (mx8 a 0 0 d) 30 = k at *
  unfold mx8 at r
  omega
/-- Sums, differences, products of middling numbers. -/
theorem add_mid {a b : Int} (a0 : -18014398509481984 ≤ a ∧ a ≤ 18014398509481984) (b0 : -18014398509481984 ≤ b ∧ b ≤ 18014398509481984) : faddV [a, b] = a + b ∧ faddH [a, b] = false := by
  unfold faddV faddH
  simp only [sumS, anyH]
  rw [sat_in (a := a) (by omega) (by omega), sat_in (a := b) (by omega) (by omega), satH_in (a := a) (by omega) (by omega), satH_in (a := b) (by omega) (by omega), sat_in (by omega) (by omega), satH_in (by omega) (by omega)]
  exact ⟨by omega, rfl⟩
theorem sub_mid {a b : Int} (a0 : -18014398509481984 ≤ a ∧ a ≤ 18014398509481984) (b0 : -18014398509481984 ≤ b ∧ b ≤ 18014398509481984) : subV a b = a - b ∧ subH a b = false := by
  unfold subV subH
  rw [sat_in (a := a) (by omega) (by omega), sat_in (a := b) (by omega) (by omega), satH_in (a := a) (by omega) (by omega), satH_in (a := b) (by omega) (by omega), sat_in (by omega) (by omega), satH_in (by omega) (by omega)]
  exact ⟨rfl, rfl⟩
theorem mul_mid {a b : Int} (a0 : -281474976710656 ≤ a ∧ a ≤ 281474976710656) (b0 : -4294967296 ≤ b ∧ b ≤ 4294967296) : mulV a b 30 = rndV (a * b) 30 ∧ mulH a b 30 = false := by
  have p := prod_lt (a := a) (b := b) (k := 281474976710656) (l := 4294967296) (by unfold absV; split <;> omega) (by unfold absV; split <;> omega)
  obtain ⟨g1, g2⟩ := rs30 (w := a * b) (by omega) (by omega)
  unfold mulV mulH
  rw [sat_in (a := a) (by omega) (by omega), sat_in (a := b) (by omega) (by omega), satH_in (a := a) (by omega) (by omega), satH_in (a := b) (by omega) (by omega), g1, g2]
  exact ⟨rfl, rfl⟩
theorem wneg_mid {a : Int} (a0 : -18014398509481984 ≤ a ∧ a ≤ 18014398509481984) : wr IntKind.i64 (0 - a) = -a := wneg ⟨by omega, by omega⟩
-- @@end
end Go.Proofs.Ytnabopepomjncaa

/- Directions: a Unit's; of twice an angle; headings in plain numbers. -/
namespace Go.Proofs.Ytnabopepomjncaa
open Go.Lr Go.Tg
set_option linter.unusedVariables false
set_option linter.unusedSimpArgs false

/-- Cauchy's inequality, as it is used. -/
theorem cs_le {x y c s A : Int} (hA : 0 ≤ A) (h : (x * x + y * y) * (c * c + s * s) ≤ A * A) : nb (x * c + y * s) A := by
  have e : (x * c + y * s) * (x * c + y * s) + (y * c - x * s) * (y * c - x * s) = (x * x + y * y) * (c * c + s * s) := by grind
  have q : 0 ≤ (y * c - x * s) * (y * c - x * s) := by
    rcases Int.le_total 0 (y * c - x * s) with k | k
    · exact Int.mul_nonneg k k
    · exact Int.mul_nonneg_of_nonpos_of_nonpos k k
  generalize x * c + y * s = D at *
  generalize (y * c - x * s) * (y * c - x * s) = Q at *
  constructor
  · rcases Int.le_total 0 D with k | k
    · omega
    · have := sq_bound (D := -D) (A := A) (by omega) hA (by rw [Int.neg_mul_neg]; omega)
      omega
  · rcases Int.le_total 0 D with k | k
    · exact sq_bound k hA (by omega)
    · omega
theorem big_sideP {s k : Int} (h : 1000000000000000000 ≤ k * k + s * s) : 700000000 ≤ mxB s k := by
  have hu : s * s ≤ mxB s k * mxB s k ∧ k * k ≤ mxB s k * mxB s k ∧ 0 ≤ mxB s k := by
    rw [← absSq s, ← absSq k]
    have a0 : 0 ≤ absV s := by unfold absV; split <;> omega
    have b0 : 0 ≤ absV k := by unfold absV; split <;> omega
    unfold mxB
    split
    · exact ⟨Int.mul_le_mul (by omega) (by omega) a0 (by omega), Int.le_refl _, b0⟩
    · exact ⟨Int.le_refl _, Int.mul_le_mul (by omega) (by omega) b0 (by omega), a0⟩
  generalize mxB s k = u at *
  rcases Int.lt_or_le u 700000000 with g | g
  · exfalso
    have : u * u ≤ 699999999 * 699999999 := Int.mul_le_mul (by omega) (by omega) hu.2.2 (by omega)
    omega
  · exact g
/-- A point near the circle that lies in the direction of an angle has that angle. -/
theorem dir_ang {a y x E K w0 : Int} (hP : nb (x * x + y * y - 1152921504606846976) 11529215046068469) (hx : nb x 1085000000) (hy : nb y 1085000000)
    (hc : nb (y * CG a - x * SG a) (E * 1073741824)) (hd : 0 < x * CG a + y * SG a) (hE0 : 0 ≤ E) (hE : E ≤ 1000000) (hK : 120 + 2 * E ≤ K) (e : SG w0 = w0) (h0 : 0 ≤ w0) (h1 : w0 ≤ 1686629713) (hw : K + 64 < w0) :
    nb (wrapV (atanV y x - a)) w0 := by
  have oc := on_circle a
  have hne : y ≠ 0 ∨ x ≠ 0 := by
    rcases Int.lt_trichotomy y 0 with k | k | k
    · exact .inl (by omega)
    · rcases Int.lt_trichotomy x 0 with l | l | l
      · exact .inr (by omega)
      · exfalso; rw [k, l] at hP; unfold nb at hP; omega
      · exact .inr (by omega)
    · exact .inl (by omega)
  obtain ⟨d1, d2⟩ := atan_dir (hy.le (by omega)) (hx.le (by omega)) hne
  have or' := on_circle (atanV y x)
  have hu : 700000000 ≤ mxB y x ∧ mxB y x ≤ 1079110600 := by
    have hu0 := (mB_bd (y := y) (x := x) (hy.le (by omega)) (hx.le (by omega)) hne).2.2.1
    have hb := big_sideP (s := y) (k := x) (by unfold nb at hP; omega)
    refine ⟨hb, ?_⟩
    have : mxB y x * mxB y x = x * x ∨ mxB y x * mxB y x = y * y := by
      unfold mxB; split
      · left; exact absSq x
      · right; exact absSq y
    have qx : 0 ≤ x * x := sqnn0 x
    have qy : 0 ≤ y * y := sqnn0 y
    generalize mxB y x = u at *
    rcases Int.lt_or_le 1079110600 u with g | g
    · exfalso
      have : 1079110601 * 1079110601 ≤ u * u := Int.mul_le_mul (by omega) (by omega) (by omega) (by omega)
      unfold nb at hP; omega
    · exact g
  obtain ⟨f1, f2⟩ := dif_all a (atanV y x)
  obtain ⟨b0, b1, -⟩ := wrap_spec (atanV y x - a)
  have es : SG (wrapV (atanV y x - a)) = -SG (a - atanV y x) := by rw [SG_wrap, ← SG_neg]; congr 1; omega
  have ec : CG (wrapV (atanV y x - a)) = CG (a - atanV y x) := by rw [CG_wrap, ← CG_neg]; congr 1; omega
  generalize wrapV (atanV y x - a) = w at *
  generalize atanV y x = r at *
  generalize mxB y x = u at *
  have P1 : (x * x + y * y) * (CG a * CG a + SG a * SG a) ≤ 1158671800000000000 * 1158671800000000000 := by
    have := Int.mul_le_mul (show x * x + y * y ≤ 1164450719652915446 by unfold nb at hP; omega) (show CG a * CG a + SG a * SG a ≤ 1152921534671618048 by unfold nb at oc; omega) (by unfold nb at oc; omega) (by omega)
    omega
  have P2 : (x * x + y * y) * (CG r * CG r + SG r * SG r) ≤ 1158671800000000000 * 1158671800000000000 := by
    have := Int.mul_le_mul (show x * x + y * y ≤ 1164450719652915446 by unfold nb at hP; omega) (show CG r * CG r + SG r * SG r ≤ 1152921534671618048 by unfold nb at or'; omega) (by unfold nb at or'; omega) (by omega)
    omega
  have c1 := cs_le (by omega) P1
  have c2 := cs_le (by omega) P2
  have i1 : (x * x + y * y) * (SG a * CG r - CG a * SG r) = (x * CG a + y * SG a) * (y * CG r - x * SG r) - (y * CG a - x * SG a) * (x * CG r + y * SG r) := by grind
  have i2 : (x * x + y * y) * (CG a * CG r + SG a * SG r) = (x * CG a + y * SG a) * (x * CG r + y * SG r) + (y * CG a - x * SG a) * (y * CG r - x * SG r) := by grind
  have m1 := c1.mul (d1.le (show 81 * u ≤ 87407958600 by omega))
  have m2 := hc.mul c2
  have m3 := hc.mul (d1.le (show 81 * u ≤ 87407958600 by omega))
  have ee : E * 1073741824 * 1158671800000000000 = 1244114371949363200000000000 * E := by grind
  rw [ee] at m2
  have m3' : nb ((y * CG a - x * SG a) * (y * CG r - x * SG r)) (1000000 * 1073741824 * 87407958600) := m3.le (Int.mul_le_mul_of_nonneg_right (Int.mul_le_mul_of_nonneg_right hE (by omega)) (by omega))
  have X0 : nb (SG a * CG r - CG a * SG r) ((92 + 2 * E) * 1073741824) := by
    generalize SG a * CG r - CG a * SG r = X at *
    generalize (x * CG a + y * SG a) * (y * CG r - x * SG r) = A at *
    generalize (y * CG a - x * SG a) * (x * CG r + y * SG r) = B at *
    have p0 : 1141392289560778507 ≤ x * x + y * y := by unfold nb at hP; omega
    generalize x * x + y * y = P at *
    constructor
    · rcases Int.lt_or_le X (-((92 + 2 * E) * 1073741824)) with g | g
      · exfalso
        have k1 : P * X ≤ 1141392289560778507 * X := by
          have := Int.mul_le_mul_of_nonpos_right p0 (show X ≤ 0 by omega)
          omega
        unfold nb at m1 m2
        omega
      · exact g
    · rcases Int.lt_or_le ((92 + 2 * E) * 1073741824) X with g | g
      · exfalso
        have k1 : 1141392289560778507 * X ≤ P * X := Int.mul_le_mul_of_nonneg_right p0 (by omega)
        unfold nb at m1 m2
        omega
      · exact g
  refine ang_small (K := K) (w0 := w0) (by unfold nb; omega) ?_ ?_ e h0 h1 hw
  · rw [ec]
    have d3 : 0 < x * CG r + y * SG r := by omega
    -- the dot's square is nearly all
    have hsq : (x * CG a + y * SG a) * (x * CG a + y * SG a) + (y * CG a - x * SG a) * (y * CG a - x * SG a) = (x * x + y * y) * (CG a * CG a + SG a * SG a) := by grind
    have m4 := hc.mul hc
    have m4' : nb ((y * CG a - x * SG a) * (y * CG a - x * SG a)) (1000000 * 1073741824 * (1000000 * 1073741824)) := m4.le (by
      have : E * 1073741824 ≤ 1000000 * 1073741824 := by omega
      exact Int.mul_le_mul this this (by omega) (by omega))
    have P3 : 1141392289560778507 * 1152921474542075904 ≤ (x * x + y * y) * (CG a * CG a + SG a * SG a) := Int.mul_le_mul (by unfold nb at hP; omega) (by unfold nb at oc; omega) (by omega) (by unfold nb at hP; omega)
    have big : 1000000000000000000 ≤ x * CG a + y * SG a := by
      generalize x * CG a + y * SG a = D at *
      generalize (y * CG a - x * SG a) * (y * CG a - x * SG a) = Q at *
      rcases Int.lt_or_le D 1000000000000000000 with g | g
      · exfalso
        have : D * D ≤ 1000000000000000000 * 1000000000000000000 := Int.mul_le_mul (by omega) (by omega) (by omega) (by omega)
        unfold nb at m4'; omega
      · exact g
    have big2 : 600000000 * 700000000 ≤ x * CG r + y * SG r := by
      omega
    have m5 := Int.mul_le_mul big big2 (by omega) (by omega)
    rcases Int.lt_or_le 0 (CG (a - r)) with g | g
    · exact g
    · exfalso
      have k2 : CG a * CG r + SG a * SG r ≤ 30064771072 := by unfold nb at f1; omega
      have k3 : (x * x + y * y) * (CG a * CG r + SG a * SG r) ≤ (x * x + y * y) * 30064771072 := Int.mul_le_mul_of_nonneg_left k2 (by unfold nb at hP; omega)
      unfold nb at m3' hP
      generalize (x * CG a + y * SG a) * (x * CG r + y * SG r) = A at *
      generalize (y * CG a - x * SG a) * (y * CG r - x * SG r) = B at *
      omega
  · rw [es]
    refine nb.neg ?_
    unfold nb at f2 X0 ⊢
    omega
/-- A number rounded at the thirtieth place. -/
theorem rn30 (w : Int) : nb (2 * (rndV w 30 * 1073741824 - w)) 1073741824 := by
  have h := rnd_bd w 30
  rw [show pow2 30 = 1073741824 from rfl] at h
  exact h
/-- The heading of a level body whose half angle's direction is h. -/
theorem yaw_core {h f0 f3 x y : Int} (o0 : nb f0 1073741824) (o3 : nb f3 1073741824) (hn : nb (f0 * f0 + f3 * f3 - 1152921504606846976) 4294967296) (hc : nb (f3 * CG h - f0 * SG h) 5368709120)
    (ry : nb (2 * (y * 1073741824 - 2 * (f0 * f3))) 1073741824) (rx : nb (2 * (x * 1073741824 - (f0 * f0 - f3 * f3))) 1073741824) : nb (wrapV (atanV y x - 2 * h)) 330 := by
  have oc := on_circle h
  have oc2 := on_circle (2 * h)
  obtain ⟨s1, s2⟩ := sum_all h h
  rw [show h + h = 2 * h by omega] at s1 s2
  have p00 := (o0.mul o0)
  have p33 := (o3.mul o3)
  have p03 := (o0.mul o3)
  have q00 := sqnn0 f0
  have q33 := sqnn0 f3
  have hx : nb x 1073741826 := by
    unfold nb at *
    generalize f0 * f0 = A at *
    generalize f3 * f3 = B at *
    omega
  have hYY : nb (2 * (f0 * f3)) 1152921508901814272 := by
    have a1 : 0 ≤ (f0 - f3) * (f0 - f3) := sqnn0 _
    have a2 : 0 ≤ (f0 + f3) * (f0 + f3) := sqnn0 _
    have b1 : (f0 - f3) * (f0 - f3) = f0 * f0 - 2 * (f0 * f3) + f3 * f3 := by grind
    have b2 : (f0 + f3) * (f0 + f3) = f0 * f0 + 2 * (f0 * f3) + f3 * f3 := by grind
    unfold nb at *
    generalize f0 * f0 = A at *
    generalize f3 * f3 = B at *
    generalize f0 * f3 = C at *
    omega
  have hy : nb y 1073741830 := by
    unfold nb at *
    generalize f0 * f3 = C at *
    omega
  -- the point's length
  have id1 : (f0 * f0 - f3 * f3) * (f0 * f0 - f3 * f3) + 2 * (f0 * f3) * (2 * (f0 * f3)) = (f0 * f0 + f3 * f3) * (f0 * f0 + f3 * f3) := by grind
  have hXX : nb (f0 * f0 - f3 * f3) 1152921508901814272 := by
    unfold nb at *
    generalize f0 * f0 = A at *
    generalize f3 * f3 = B at *
    omega
  have hNN := hn.mul hn
  have e1 : 1152921504606846976 * (x * x + y * y - 1152921504606846976) = ((f0 * f0 + f3 * f3) * (f0 * f0 + f3 * f3) - 1152921504606846976 * 1152921504606846976)
      + (f0 * f0 - f3 * f3) * (2 * (x * 1073741824 - (f0 * f0 - f3 * f3))) + 2 * (f0 * f3) * (2 * (y * 1073741824 - 2 * (f0 * f3)))
      + (x * 1073741824 - (f0 * f0 - f3 * f3)) * (x * 1073741824 - (f0 * f0 - f3 * f3)) + (y * 1073741824 - 2 * (f0 * f3)) * (y * 1073741824 - 2 * (f0 * f3)) := by rw [← id1]; grind
  have e2 : (f0 * f0 + f3 * f3) * (f0 * f0 + f3 * f3) - 1152921504606846976 * 1152921504606846976 = (f0 * f0 + f3 * f3 - 1152921504606846976) * (f0 * f0 + f3 * f3 - 1152921504606846976) + 2305843009213693952 * (f0 * f0 + f3 * f3 - 1152921504606846976) := by grind
  have k1 := hXX.mul rx
  have k2 := hYY.mul ry
  have rx1 : nb (x * 1073741824 - (f0 * f0 - f3 * f3)) 536870912 := by unfold nb at *; omega
  have ry1 : nb (y * 1073741824 - 2 * (f0 * f3)) 536870912 := by unfold nb at *; omega
  have k3 := rx1.mul rx1
  have k4 := ry1.mul ry1
  have hP : nb (x * x + y * y - 1152921504606846976) 11529215046068469 := by
    rw [e2] at e1
    generalize x * x + y * y - 1152921504606846976 = P at *
    generalize (f0 * f0 + f3 * f3 - 1152921504606846976) * (f0 * f0 + f3 * f3 - 1152921504606846976) = N1 at *
    generalize f0 * f0 + f3 * f3 - 1152921504606846976 = N2 at *
    generalize (f0 * f0 - f3 * f3) * (2 * (x * 1073741824 - (f0 * f0 - f3 * f3))) = A1 at *
    generalize 2 * (f0 * f3) * (2 * (y * 1073741824 - 2 * (f0 * f3))) = A2 at *
    generalize (x * 1073741824 - (f0 * f0 - f3 * f3)) * (x * 1073741824 - (f0 * f0 - f3 * f3)) = A3 at *
    generalize (y * 1073741824 - 2 * (f0 * f3)) * (y * 1073741824 - 2 * (f0 * f3)) = A4 at *
    unfold nb at *
    omega
  -- across
  generalize hC2 : CG (2 * h) = C2 at *
  generalize hS2 : SG (2 * h) = S2 at *
  have cb := CG_bd h
  have sb := SG_bd h
  have c2b : nb C2 1073741824 := by rw [← hC2]; exact CG_bd _
  have s2b : nb S2 1073741824 := by rw [← hS2]; exact SG_bd _
  have dn : nb (f0 * CG h + f3 * SG h) 1152921526081683456 := by
    refine cs_le (by omega) ?_
    have := Int.mul_le_mul (show f0 * f0 + f3 * f3 ≤ 1152921508901814272 by unfold nb at hn; omega) (show CG h * CG h + SG h * SG h ≤ 1152921534671618048 by unfold nb at oc; omega) (by unfold nb at oc; omega) (by omega)
    omega
  generalize CG h = c at *
  generalize SG h = s at *
  have j1 := dn.mul hc
  have j2 := ry.mul c2b
  have j3 := rx.mul s2b
  have j4 := hYY.mul s1
  have j5 := hXX.mul s2
  have i1 : 1073741824 * (1073741824 * (y * C2 - x * S2)) = 2 * ((f0 * c + f3 * s) * (f3 * c - f0 * s)) - 2 * (f0 * f3) * (c * c - s * s - 1073741824 * C2) + (f0 * f0 - f3 * f3) * (s * c + c * s - 1073741824 * S2)
      + 536870912 * (2 * (y * 1073741824 - 2 * (f0 * f3)) * C2) - 536870912 * (2 * (x * 1073741824 - (f0 * f0 - f3 * f3)) * S2) := by grind
  have hcross : nb (y * C2 - x * S2) (68 * 1073741824) := by
    generalize (f0 * c + f3 * s) * (f3 * c - f0 * s) = B1 at *
    generalize 2 * (f0 * f3) * (c * c - s * s - 1073741824 * C2) = B2 at *
    generalize (f0 * f0 - f3 * f3) * (s * c + c * s - 1073741824 * S2) = B3 at *
    generalize 2 * (y * 1073741824 - 2 * (f0 * f3)) * C2 = B4 at *
    generalize 2 * (x * 1073741824 - (f0 * f0 - f3 * f3)) * S2 = B5 at *
    generalize y * C2 - x * S2 = X at *
    unfold nb at *
    omega
  -- ahead
  have l1 := hXX.mul s1
  have l2 := hYY.mul s2
  have l3 := rx.mul c2b
  have l4 := ry.mul s2b
  have i2 : 1073741824 * (1073741824 * (x * C2 + y * S2)) = (f0 * c + f3 * s) * (f0 * c + f3 * s) - (f3 * c - f0 * s) * (f3 * c - f0 * s) - (f0 * f0 - f3 * f3) * (c * c - s * s - 1073741824 * C2) - 2 * (f0 * f3) * (s * c + c * s - 1073741824 * S2)
      + 536870912 * (2 * (x * 1073741824 - (f0 * f0 - f3 * f3)) * C2) + 536870912 * (2 * (y * 1073741824 - 2 * (f0 * f3)) * S2) := by grind
  have i3 : (f0 * c + f3 * s) * (f0 * c + f3 * s) + (f3 * c - f0 * s) * (f3 * c - f0 * s) = (f0 * f0 + f3 * f3) * (c * c + s * s) := by grind
  have l5 : 1152921500000000000 * 1152921400000000000 ≤ (f0 * f0 + f3 * f3) * (c * c + s * s) := Int.mul_le_mul (by unfold nb at hn; omega) (by unfold nb at oc; omega) (by omega) (by unfold nb at hn; omega)
  have l6 := hc.mul hc
  have hdot : 0 < x * C2 + y * S2 := by
    generalize (f0 * c + f3 * s) * (f0 * c + f3 * s) = B1 at *
    generalize (f3 * c - f0 * s) * (f3 * c - f0 * s) = B2 at *
    generalize (f0 * f0 - f3 * f3) * (c * c - s * s - 1073741824 * C2) = B3 at *
    generalize 2 * (f0 * f3) * (s * c + c * s - 1073741824 * S2) = B4 at *
    generalize 2 * (x * 1073741824 - (f0 * f0 - f3 * f3)) * C2 = B5 at *
    generalize 2 * (y * 1073741824 - 2 * (f0 * f3)) * S2 = B6 at *
    generalize x * C2 + y * S2 = X at *
    unfold nb at *
    omega
  subst hC2 hS2
  exact dir_ang (K := 256) (E := 68) (a := 2 * h) hP (hx.le (by omega)) (hy.le (by omega)) hcross hdot (by omega) (by omega) (by omega) (by decide +kernel) (by omega) (by omega) (by omega)
/-- Dividing by what is not less. -/
theorem dsign {v u : Int} (h0 : v ≤ u) (h1 : -v ≤ u) (hu : 1 ≤ u) (hu1 : u ≤ 1152921504606846976) : nb (2 * (divPV v u 30 * u - v * 1073741824)) u ∧ nb (divPV v u 30) 1073741824 ∧ divPH v u 30 = false ∧ (0 ≤ v → 0 ≤ divPV v u 30) ∧ (v ≤ 0 → divPV v u 30 ≤ 0) := by
  obtain ⟨d1, d2, d3⟩ := dpass h0 h1 hu hu1
  refine ⟨d1, d2, d3, ?_, ?_⟩
  · intro hv
    rcases Int.lt_or_le (divPV v u 30) 0 with g | g
    · exfalso
      have : divPV v u 30 * u ≤ -1 * u := Int.mul_le_mul_of_nonneg_right (by omega) (by omega)
      omega
    · exact g
  · intro hv
    rcases Int.lt_or_le 0 (divPV v u 30) with g | g
    · exfalso
      have : 1 * u ≤ divPV v u 30 * u := Int.mul_le_mul_of_nonneg_right (by omega) (by omega)
      omega
    · exact g
/-- A Unit of two numbers keeps their direction. -/
theorem unit_dir {a d : Int} (ha : nb a 1084000000) (hd : nb d 1084000000) (h0 : 1 ≤ a * a + d * d) (h1 : a * a + d * d ≤ 1175979000000000000) :
    nb (uV3 a 0 0 d * a - uV0 a 0 0 d * d) 2684354560 ∧ 0 ≤ uV0 a 0 0 d * a ∧ 0 ≤ uV3 a 0 0 d * d := by
  have ia : inS a := by unfold nb at ha; unfold inS; omega
  have id : inS d := by unfold nb at hd; unfold inS; omega
  have i0 : inS 0 := by unfold inS; omega
  have en : n4 a 0 0 d = a * a + d * d := by unfold n4; omega
  have hz : uZ a 0 0 d = false := by
    rcases bool_cases (uZ a 0 0 d) with g | g
    · exfalso
      unfold uZ at g
      rw [sat_in ia.1 ia.2, sat_in id.1 id.2] at g
      simp only [Bool.and_eq_true, Bool.and_true, beq_iff_eq] at g
      obtain ⟨e0, -, -, e3⟩ := g
      subst e0 e3
      omega
    · exact g
  unfold uV0 uV3
  rw [cond_f hz, cond_f hz, sat_in ia.1 ia.2, sat_in id.1 id.2, sat_in i0.1 i0.2]
  unfold uE
  obtain ⟨m0, mA, mB, mC, mD, m1, -⟩ := hyp4 ia i0 i0 id (by rw [en]; exact h0)
  have p1 := pass1 m0.1 m0.2 mA mB mC mD m1
  obtain ⟨a1, a2, -, a3, a4⟩ := dsign mA.1 mA.2 m0.1 m0.2
  obtain ⟨d1, d2, -, d3, d4⟩ := dsign mD.1 mD.2 m0.1 m0.2
  have z2 : nb (divPV 0 (hypV [a, 0, 0, d]) 30) 1073741824 := by rw [div_z]; unfold nb; omega
  rw [en] at m1
  generalize hypV [a, 0, 0, d] = n at *
  obtain ⟨k0, kA, kB, kC, kD, k1, k2⟩ := hyp4 (a := divPV a n 30) (b := divPV 0 n 30) (c := divPV 0 n 30) (d := divPV d n 30) (inS_bd a2) (inS_bd z2) (inS_bd z2) (inS_bd d2) (by omega)
  have le := n4_le (a := divPV a n 30) (b := divPV 0 n 30) (c := divPV 0 n 30) (d := divPV d n 30) a2 z2 z2 d2
  obtain ⟨k3, -⟩ := k2 (by omega)
  have big := len_big (by omega) k3 p1
  obtain ⟨b1, b2, -, b3, b4⟩ := dsign kA.1 kA.2 k0.1 k0.2
  obtain ⟨e1, e2, -, e3, e4⟩ := dsign kD.1 kD.2 k0.1 k0.2
  generalize divPV a n 30 = t0 at *
  generalize divPV d n 30 = t3 at *
  generalize hypV [t0, divPV 0 n 30, divPV 0 n 30, t3] = m at *
  generalize divPV t0 m 30 = f0 at *
  generalize divPV t3 m 30 = f3 at *
  have hn : n ≤ 1084426000 := by
    rcases Int.lt_or_le 1084426000 n with g | g
    · exfalso
      have : 1084426001 * 1084426000 ≤ n * (n - 1) := Int.mul_le_mul (by omega) (by omega) (by omega) (by omega)
      have e : n * (n - 1) = n * n - n := by grind
      omega
    · exact g
  have an : nb a n := ⟨by omega, by omega⟩
  have dn : nb d n := ⟨by omega, by omega⟩
  refine ⟨?_, ?_, ?_⟩
  · have g1 := d1.mul an
    have g2 := a1.mul dn
    have c1 : nb (t3 * a - t0 * d) n := by
      refine nb.cancel (m := n) (by omega) ?_
      have e : 2 * (n * (t3 * a - t0 * d)) = 2 * (t3 * n - d * 1073741824) * a - 2 * (t0 * n - a * 1073741824) * d := by grind
      unfold nb at *
      generalize n * (t3 * a - t0 * d) = X at *
      generalize 2 * (t3 * n - d * 1073741824) * a = A at *
      generalize 2 * (t0 * n - a * 1073741824) * d = B at *
      generalize n * n = nn at *
      omega
    have g3 := e1.mul an
    have g4 := b1.mul dn
    have e : 2 * (m * (f3 * a - f0 * d)) = 2 * (f3 * m - t3 * 1073741824) * a - 2 * (f0 * m - t0 * 1073741824) * d + 2147483648 * (t3 * a - t0 * d) := by grind
    have hmn : m * n ≤ m * 1084426000 := Int.mul_le_mul_of_nonneg_left hn (by omega)
    refine nb.cancel (m := m) (by omega) ?_
    unfold nb at *
    generalize m * (f3 * a - f0 * d) = X at *
    generalize 2 * (f3 * m - t3 * 1073741824) * a = A at *
    generalize 2 * (f0 * m - t0 * 1073741824) * d = B at *
    generalize t3 * a - t0 * d = C at *
    generalize m * n = mn at *
    omega
  · rcases Int.le_total 0 a with g | g
    · exact Int.mul_nonneg (b3 (a3 g)) g
    · exact Int.mul_nonneg_of_nonpos_of_nonpos (b4 (a4 g)) g
  · rcases Int.le_total 0 d with g | g
    · exact Int.mul_nonneg (e3 (d3 g)) g
    · exact Int.mul_nonneg_of_nonpos_of_nonpos (e4 (d4 g)) g
end Go.Proofs.Ytnabopepomjncaa

/- Units of numbers that nearly have length one; a vector's length; the exponential in plain numbers. -/
namespace Go.Proofs.Ytnabopepomjncaa
open Go.Lr Go.Tg
set_option linter.unusedVariables false
set_option linter.unusedSimpArgs false

theorem inS_nb {a k : Int} (h : nb a k) (hk : k ≤ 1152921504606846976) : inS a := by unfold nb at h; unfold inS; omega
theorem satH_S {a : Int} (h : inS a) : satH a = false := satH_in h.1 h.2
theorem satV_S {a : Int} (h : inS a) : satV a = a := sat_in h.1 h.2
/-- A Unit's flag stays. -/
theorem unit_fl {a b c d : Int} {h : Bool} (ha : nb a 8589934592) (hb : nb b 8589934592) (hc : nb c 8589934592) (hd : nb d 8589934592) : uFl h a b c d = h := by
  have ia := inS_nb ha (by omega)
  have ib := inS_nb hb (by omega)
  have ic := inS_nb hc (by omega)
  have id := inS_nb hd (by omega)
  unfold uFl uS
  rw [satH_S ia, satH_S ib, satH_S ic, satH_S id]
  simp only [Bool.or_false]
  rcases bool_cases (uZ a b c d) with z | z
  · rw [cond_t z]
  · rw [cond_f z]
    have hp := uZ_pos z
    rw [satV_S ia, satV_S ib, satV_S ic, satV_S id] at *
    unfold uH uM
    have e4 : n4 a b c d ≤ 295147905179352825856 := by
      have a2 := (ha.mul ha).2
      have b2 := (hb.mul hb).2
      have c2 := (hc.mul hc).2
      have d2 := (hd.mul hd).2
      unfold n4; omega
    obtain ⟨m0, mA, mB, mC, mD, m1, m2⟩ := hyp4 ia ib ic id hp
    obtain ⟨-, m3⟩ := m2 (by omega)
    rw [m3]
    have p1 := pass1 m0.1 m0.2 mA mB mC mD m1
    obtain ⟨-, a2, a3, -⟩ := dsign mA.1 mA.2 m0.1 m0.2
    obtain ⟨-, b2, b3, -⟩ := dsign mB.1 mB.2 m0.1 m0.2
    obtain ⟨-, c2, c3, -⟩ := dsign mC.1 mC.2 m0.1 m0.2
    obtain ⟨-, d2, d3, -⟩ := dsign mD.1 mD.2 m0.1 m0.2
    generalize hypV [a, b, c, d] = n at *
    obtain ⟨k0, kA, kB, kC, kD, k1, k2⟩ := hyp4 (inS_bd a2) (inS_bd b2) (inS_bd c2) (inS_bd d2) (by omega)
    have le := n4_le a2 b2 c2 d2
    obtain ⟨-, k3⟩ := k2 (by omega)
    rw [a3, b3, c3, d3, k3]
    obtain ⟨-, -, a4, -⟩ := dsign kA.1 kA.2 k0.1 k0.2
    obtain ⟨-, -, b4, -⟩ := dsign kB.1 kB.2 k0.1 k0.2
    obtain ⟨-, -, c4, -⟩ := dsign kC.1 kC.2 k0.1 k0.2
    obtain ⟨-, -, d4, -⟩ := dsign kD.1 kD.2 k0.1 k0.2
    rw [a4, b4, c4, d4]
    simp
/-- One pass over a number, by a length near one. -/
theorem near_k {a n k : Int} (hk0 : 0 ≤ k) (hk : k ≤ 1000000) (h0 : a ≤ n ∧ -a ≤ n) (hn : 1073741824 - k ≤ n) (hn1 : n ≤ 1073741824 + k) : nb (divPV a n 30 - a) (k + 1) := by
  have h := (dpass h0.1 h0.2 (by omega) (by omega)).1
  generalize divPV a n 30 = t at *
  have e : t * n - a * 1073741824 = (t - a) * n + a * (n - 1073741824) := by grind
  have p := (show nb a n from ⟨by omega, h0.1⟩).mul (show nb (n - 1073741824) k from ⟨by omega, by omega⟩)
  rw [e] at h
  unfold nb at p ⊢
  generalize a * (n - 1073741824) = w at *
  generalize t - a = x at *
  have en : n * k = k * n := Int.mul_comm ..
  rw [en] at p
  constructor
  · rcases Int.lt_or_le x (-(k + 1)) with g | g
    · exfalso
      have : x * n ≤ (-(k + 1) - 1) * n := Int.mul_le_mul_of_nonneg_right (by omega) (by omega)
      have e2 : (-(k + 1) - 1) * n = -(k * n) - 2 * n := by grind
      omega
    · exact g
  · rcases Int.lt_or_le (k + 1) x with g | g
    · exfalso
      have : (k + 2) * n ≤ x * n := Int.mul_le_mul_of_nonneg_right (by omega) (by omega)
      have e2 : (k + 2) * n = k * n + 2 * n := by grind
      omega
    · exact g
/-- A Unit of what nearly has length one is near it. -/
theorem unit_near {a b c d k : Int} (ha : nb a 2147483648) (hb : nb b 2147483648) (hc : nb c 2147483648) (hd : nb d 2147483648) (hk0 : 1 ≤ k) (hk : k ≤ 50000) (hn : nb (n4 a b c d - 1152921504606846976) (k * 2147483648)) :
    nb (uV0 a b c d - a) (k + 5) ∧ nb (uV1 a b c d - b) (k + 5) ∧ nb (uV2 a b c d - c) (k + 5) ∧ nb (uV3 a b c d - d) (k + 5) := by
  have ia := inS_nb ha (by omega)
  have ib := inS_nb hb (by omega)
  have ic := inS_nb hc (by omega)
  have id := inS_nb hd (by omega)
  have hN : 1 ≤ n4 a b c d := by unfold nb at hn; omega
  have hz : uZ a b c d = false := by
    rcases bool_cases (uZ a b c d) with g | g
    · exfalso
      unfold uZ at g
      rw [satV_S ia, satV_S ib, satV_S ic, satV_S id] at g
      simp only [Bool.and_eq_true, Bool.and_true, beq_iff_eq] at g
      obtain ⟨e0, e1, e2, e3⟩ := g
      subst e0 e1 e2 e3
      unfold n4 at hN; omega
    · exact g
  unfold uV0 uV1 uV2 uV3
  rw [cond_f hz, cond_f hz, cond_f hz, cond_f hz, satV_S ia, satV_S ib, satV_S ic, satV_S id]
  unfold uE
  obtain ⟨m0, mA, mB, mC, mD, m1, m2⟩ := hyp4 ia ib ic id hN
  obtain ⟨m3, -⟩ := m2 (by unfold nb at hn; omega)
  have hn0 : 1073741824 - (k + 2) ≤ hypV [a, b, c, d] := by
    generalize hypV [a, b, c, d] = n at *
    rcases Int.lt_or_le n (1073741824 - (k + 2)) with g | g
    · exfalso
      have : n * n ≤ (1073741824 - (k + 3)) * (1073741824 - (k + 3)) := Int.mul_le_mul (by omega) (by omega) (by omega) (by omega)
      have e : (1073741824 - (k + 3)) * (1073741824 - (k + 3)) = 1152921504606846976 - 2147483648 * (k + 3) + (k + 3) * (k + 3) := by grind
      have q : (k + 3) * (k + 3) ≤ 50003 * (k + 3) := Int.mul_le_mul_of_nonneg_right (by omega) (by omega)
      unfold nb at hn; omega
    · exact g
  have hn1 : hypV [a, b, c, d] ≤ 1073741824 + (k + 2) := by
    generalize hypV [a, b, c, d] = n at *
    rcases Int.lt_or_le (1073741824 + (k + 2)) n with g | g
    · exfalso
      have : (1073741824 + (k + 3)) * (1073741824 + (k + 2)) ≤ n * (n - 1) := Int.mul_le_mul (by omega) (by omega) (by omega) (by omega)
      have e : (1073741824 + (k + 3)) * (1073741824 + (k + 2)) = 1152921504606846976 + 1073741824 * (k + 2) + 1073741824 * (k + 3) + (k + 3) * (k + 2) := by grind
      have e2 : n * (n - 1) = n * n - n := by grind
      have q : 0 ≤ (k + 3) * (k + 2) := Int.mul_nonneg (by omega) (by omega)
      unfold nb at hn; omega
    · exact g
  have hs : UnitQ (divPV a (hypV [a, b, c, d]) 30) (divPV b (hypV [a, b, c, d]) 30) (divPV c (hypV [a, b, c, d]) 30) (divPV d (hypV [a, b, c, d]) 30) :=
    ⟨(dpass mA.1 mA.2 m0.1 m0.2).2.1, (dpass mB.1 mB.2 m0.1 m0.2).2.1, (dpass mC.1 mC.2 m0.1 m0.2).2.1, (dpass mD.1 mD.2 m0.1 m0.2).2.1, pass2 (by omega) m0.2 mA mB mC mD m1 m3⟩
  have hl := unit_len hs
  have hp := (unit_pass hs).2
  have a1 := near_k (k := k + 2) (by omega) (by omega) mA hn0 hn1
  have b1 := near_k (k := k + 2) (by omega) (by omega) mB hn0 hn1
  have c1 := near_k (k := k + 2) (by omega) (by omega) mC hn0 hn1
  have d1 := near_k (k := k + 2) (by omega) (by omega) mD hn0 hn1
  unfold nb at *
  omega
/-- A vector's length. -/
theorem hyp3 {a b c : Int} (ha : nb a 1099511627776) (hb : nb b 1099511627776) (hc : nb c 1099511627776) :
    0 ≤ exN a b c ∧ exN a b c ≤ 2199023255552 ∧ (a ≤ exN a b c ∧ -a ≤ exN a b c) ∧ (b ≤ exN a b c ∧ -b ≤ exN a b c) ∧ (c ≤ exN a b c ∧ -c ≤ exN a b c) ∧ a * a + (b * b + c * c) ≤ exN a b c * exN a b c + exN a b c ∧
    (exN a b c = 0 ∨ exN a b c * exN a b c - exN a b c < a * a + (b * b + c * c)) ∧ hypH [satV a, satV b, satV c] = false := by
  have ia := inS_nb ha (by omega)
  have ib := inS_nb hb (by omega)
  have ic := inS_nb hc (by omega)
  obtain ⟨s0, s1, s2, s3, s4⟩ := exN_side a b c
  rw [satV_S ia] at s0
  rw [satV_S ib] at s1
  rw [satV_S ic] at s2
  have q0 := sqnn0 a
  have q1 := sqnn0 b
  have q2 := sqnn0 c
  have a2 := (ha.mul ha).2
  have b2 := (hb.mul hb).2
  have c2 := (hc.mul hc).2
  have hN : a * a + (b * b + c * c) < 340282366920938463463374607431768211456 := by omega
  obtain ⟨r0, r1, r2⟩ := rootW_spec (N := a * a + (b * b + c * c)) (by omega) hN
  have r3 : rootW (a * a + (b * b + c * c)) ≤ 2199023255552 := root_le (by omega) hN (by omega) (by omega)
  have ev : exN a b c = rootW (a * a + (b * b + c * c)) := by
    unfold exN hypV
    rw [sqS3, satV_S ia, satV_S ib, satV_S ic, satV_S ia, satV_S ib, satV_S ic, sat_in (by omega) (by omega)]
  have ef : hypH [satV a, satV b, satV c] = false := by
    unfold hypH
    rw [sqS3, satV_S ia, satV_S ib, satV_S ic, satV_S ia, satV_S ib, satV_S ic]
    show ((satH a || (satH b || (satH c || false))) || _) = _
    rw [satH_S ia, satH_S ib, satH_S ic, satH_in (by omega) (by omega)]
    rfl
  rw [ev] at s0 s1 s2
  rw [ev]
  exact ⟨r0, r3, s0, s1, s2, r1, r2, ef⟩
/-- The heading, in plain numbers: a level rotation's. -/
theorem yaw_of {h f0 f3 : Int} (hu : UnitQ f0 0 0 f3) (hc : nb (f3 * CG h - f0 * SG h) 5368709120) : nb (wrapV (atanV (rm3 f0 0 0 f3) (rm0 f0 0 0 f3) - 2 * h)) 330 ∧ nb (rm3 f0 0 0 f3) 4294967296 ∧ nb (rm0 f0 0 0 f3) 4294967296 := by
  have z : one 0 := by unfold one; omega
  obtain ⟨e0, -, -, e3, -⟩ := rm_eq hu.ha z z hu.hd
  have hn := hu.hn
  unfold nearU n4 at hn
  have m0 : mx0 f0 0 0 f3 = f0 * f0 - f3 * f3 := by unfold mx0; omega
  have m3 : mx3 f0 0 0 f3 = 2 * (f0 * f3) := by unfold mx3; omega
  rw [e0, e3, m0, m3]
  have r3 := rn30 (2 * (f0 * f3))
  have r0 := rn30 (f0 * f0 - f3 * f3)
  have b0 := (show nb f0 1073741824 from hu.ha)
  have b3 := (show nb f3 1073741824 from hu.hd)
  have p1 := b0.mul b3
  have p2 := b0.mul b0
  have p3 := b3.mul b3
  refine ⟨yaw_core b0 b3 (by unfold nb; omega) hc r3 r0, ?_, ?_⟩
  · unfold nb at *; omega
  · unfold nb at *; omega
theorem fyA_ok {a : Int} (ha : nb a 3221225472) : wrapV a = a ∧ nb (2 * fyA a - a) 1 ∧ mulH (wrapV a) 536870912 30 = false := by
  have hw : wrapV a = a := by unfold nb at ha; exact wrap_unique (k := 0) (by omega) (by omega) (by omega)
  have hm := mul30 (a := a) (b := 536870912) (ha.le (by omega)) (by unfold nb; omega)
  refine ⟨hw, ?_, ?_⟩
  · unfold fyA; rw [hw]
    unfold nb at *; omega
  · rw [hw]; exact mulH30 (ha.le (by omega)) (by unfold nb; omega)
/-- The heading of a turn about the upright axis. -/
theorem yaws1 {a : Int} (ha : nb a 3221225472) : nb (atanV (rm3 (fy0 a) 0 0 (fy3 a)) (rm0 (fy0 a) 0 0 (fy3 a)) - a) 340 ∧ nb (rm3 (fy0 a) 0 0 (fy3 a)) 4294967296 ∧ nb (rm0 (fy0 a) 0 0 (fy3 a)) 4294967296 ∧ UnitQ (fy0 a) 0 0 (fy3 a) ∧ (∀ h, fyFl h a = h) := by
  obtain ⟨hw, h2, hf⟩ := fyA_ok ha
  obtain ⟨hu, -, -⟩ := fy_ok a
  have hA : nb (fyA a) 1152921504606846976 := by unfold nb at *; omega
  have hcd : uV0 (cosV (fyA a)) 0 0 (sinV (fyA a)) = fy0 a ∧ uV3 (cosV (fyA a)) 0 0 (sinV (fyA a)) = fy3 a := ⟨rfl, rfl⟩
  rw [cosV_eq, sinV_eq hA] at hcd
  have oc := on_circle (fyA a)
  have cb := CG_bd (fyA a)
  have sb := SG_bd (fyA a)
  obtain ⟨d1, d2, d3⟩ := unit_dir (a := CG (fyA a)) (d := SG (fyA a)) (cb.le (by omega)) (sb.le (by omega)) (by unfold nb at oc; omega) (by unfold nb at oc; omega)
  rw [hcd.1, hcd.2] at d1
  obtain ⟨y1, y2, y3⟩ := yaw_of (h := fyA a) hu (d1.le (by omega))
  refine ⟨?_, y2, y3, hu, ?_⟩
  · have hb : nb (atanV (rm3 (fy0 a) 0 0 (fy3 a)) (rm0 (fy0 a) 0 0 (fy3 a))) 3373259426 := by
      by_cases hz : rm3 (fy0 a) 0 0 (fy3 a) ≠ 0 ∨ rm0 (fy0 a) 0 0 (fy3 a) ≠ 0
      · exact (atan_sg (y2.le (by omega)) (y3.le (by omega)) hz).1
      · have e1 : rm3 (fy0 a) 0 0 (fy3 a) = 0 := by omega
        have e2 : rm0 (fy0 a) 0 0 (fy3 a) = 0 := by omega
        rw [e1, e2, show atanV 0 0 = 0 by decide +kernel]; unfold nb; omega
    obtain ⟨w0, w1, k, hk⟩ := wrap_spec (atanV (rm3 (fy0 a) 0 0 (fy3 a)) (rm0 (fy0 a) 0 0 (fy3 a)) - 2 * fyA a)
    generalize wrapV (atanV (rm3 (fy0 a) 0 0 (fy3 a)) (rm0 (fy0 a) 0 0 (fy3 a)) - 2 * fyA a) = w at *
    generalize atanV (rm3 (fy0 a) 0 0 (fy3 a)) (rm0 (fy0 a) 0 0 (fy3 a)) = r at *
    unfold nb at *
    omega
  · intro h
    unfold fyFl
    rw [unit_fl, sinH_ok hA, cosH_ok, hf, Bool.or_false]
    · rw [cosV_eq]; exact cb.le (by omega)
    · unfold nb; omega
    · unfold nb; omega
    · rw [sinV_eq hA]; exact sb.le (by omega)
/-- Divided by what is at least half of it. -/
theorem ddiv2 {v u : Int} (h0 : v ≤ 2 * u) (h1 : -v ≤ 2 * u) (hu : 1 ≤ u) (hu1 : u ≤ 4398046511104) : nb (2 * (divPV v u 30 * u - v * 1073741824)) u ∧ nb (divPV v u 30) 2147483648 ∧ divPH v u 30 = false := by
  have key : ∀ w : Int, 0 ≤ w → nb (2 * (divV (w * 1073741824) u * u - w * 1073741824)) u := by
    intro w w0
    rw [div_pos (a := w * 1073741824) (b := u) (by omega) (by omega)]
    exact quo_bd (by omega) (by omega)
  have odd : ∀ w : Int, divV (-w) u = -divV w u := by
    intro w
    unfold divV
    rw [absV_negate]
    have hu' : decide (u < 0) = false := by simp; omega
    rw [hu']
    by_cases g0 : w = 0
    · subst g0
      have : quoR (absV 0) (absV u) = 0 := by
        rw [show absV 0 = 0 from rfl]
        exact quoR_zero (by unfold absV; split <;> omega)
      rw [this]; rfl
    · by_cases g1 : w < 0
      · have e1 : decide (w < 0) = true := by simpa using g1
        have e2 : decide (-w < 0) = false := by simp; omega
        rw [e1, e2]; unfold sgn; simp
      · have e1 : decide (w < 0) = false := by simp; omega
        have e2 : decide (-w < 0) = true := by simp; omega
        rw [e1, e2]; unfold sgn; simp
  have hd : nb (2 * (divV (v * 1073741824) u * u - v * 1073741824)) u := by
    by_cases h : 0 ≤ v
    · exact key v h
    · have k := key (-v) (by omega)
      rw [show -v * 1073741824 = -(v * 1073741824) by omega, odd, Int.neg_mul] at k
      unfold nb at *; omega
  have hb : nb (divV (v * 1073741824) u) 2147483648 := by
    unfold nb at hd ⊢
    generalize divV (v * 1073741824) u = t at *
    constructor
    · rcases Int.lt_or_le t (-2147483648) with h | h
      · exfalso
        have : t * u ≤ -2147483649 * u := Int.mul_le_mul_of_nonneg_right (by omega) (by omega)
        omega
      · exact h
    · rcases Int.lt_or_le 2147483648 t with h | h
      · exfalso
        have : 2147483649 * u ≤ t * u := Int.mul_le_mul_of_nonneg_right (by omega) (by omega)
        omega
      · exact h
  have e : pow2 (Int.toNat 30) = 1073741824 := rfl
  have ev : divPV v u 30 = divV (v * 1073741824) u := by
    unfold nb at hb
    unfold divPV byV
    rw [if_neg (by decide), if_neg (by decide), e, sat_in (a := v) (by omega) (by omega), sat_in (a := u) (by omega) (by omega), if_neg (by omega), sat_in (by omega) (by omega)]
  rw [ev]
  exact ⟨hd, hb, divH30 (by unfold nb; omega) (by unfold nb; omega) (hb.le (by omega)) (by omega)⟩
/-- A sine is at most twice its angle. -/
theorem SG_two {a : Int} (h0 : 0 ≤ a) (h1 : a ≤ 3221225472) : nb (SG a) (2 * a) := by
  have hb := SG_bd a
  by_cases h : a ≤ 843314857
  · have e : SG a = sinF a := by
      unfold SG
      rw [wrap_unique (a := a) (w := a) (k := 0) (by omega) (by omega) (by omega)]
      congr 1
      unfold foldV; (repeat' split) <;> omega
    have hf := fabs_sm (w := a) (by unfold nb; omega)
    rw [if_neg (by omega)] at hf
    rw [e]
    unfold sinF
    rw [hf, decide_eq_true h, cond_true]
    have hx : nb a 843314857 := by unfold nb; omega
    obtain ⟨q0, q1⟩ := sqx_bd hx
    have hz := mul30 (hx.le (show (843314857 : Int) ≤ 4294967296 by omega)) (hx.le (show (843314857 : Int) ≤ 4294967296 by omega))
    have hl : sL1 = [2959, -213044, 8947849, -178956971] ++ [1073741824] := rfl
    obtain ⟨a0, -, -⟩ := ser_all (a := -27) (l := [2959, -213044, 8947849, -178956971]) q0 q1 hz (by unfold nb; omega) (by unfold nb; simp)
    rw [← hl] at a0
    have hs : nb (sinS0 a) (2 * a) := by
      unfold sinS0
      have hm := mul30 (hx.le (show (843314857 : Int) ≤ 4294967296 by omega)) (a0.le (show (2001141824 : Int) ≤ 4294967296 by omega))
      have p := (show nb a a by unfold nb; omega).mul a0
      generalize serV (mulV a a 30) (-27) sL1 = S at *
      unfold nb at *
      generalize a * S = aS at *
      omega
    rw [mm_def]
    unfold nb at *
    (repeat' split) <;> omega
  · unfold nb at *; omega
/-- The exponential's angle and factor, of a vector of length at most 4. -/
theorem ex_ok {v0 v1 v2 : Int} (h0 : nb v0 4294967296) (h1 : nb v1 4294967296) (h2 : nb v2 4294967296) (hn : exN v0 v1 v2 ≤ 4294967296) (hz : 1 ≤ exN v0 v1 v2) :
    nb (2 * exA v0 v1 v2 - exN v0 v1 v2) 1 ∧ 0 ≤ exA v0 v1 v2 ∧ nb (2 * (exS v0 v1 v2 * exN v0 v1 v2 - SG (exA v0 v1 v2) * 1073741824)) (exN v0 v1 v2) ∧ nb (exS v0 v1 v2) 2147483648 ∧
    divPH (sinV (exA v0 v1 v2)) (exN v0 v1 v2) 30 = false ∧ mulH (exN v0 v1 v2) 536870912 30 = false ∧ nb (exA v0 v1 v2) 1152921504606846976 ∧ nb (SG (exA v0 v1 v2)) (exN v0 v1 v2 + 1) := by
  have nn : nb (exN v0 v1 v2) 4294967296 := ⟨by omega, hn⟩
  have hm := mul30 (a := exN v0 v1 v2) (b := 536870912) nn (by unfold nb; omega)
  have hA2 : nb (2 * exA v0 v1 v2 - exN v0 v1 v2) 1 := by
    unfold exA
    unfold nb at *; omega
  have hA : nb (exA v0 v1 v2) 1152921504606846976 := by unfold nb at *; omega
  have hA0 : 0 ≤ exA v0 v1 v2 := by unfold nb at hA2; omega
  unfold exS
  rw [sinV_eq hA]
  generalize exA v0 v1 v2 = a at *
  generalize hN : exN v0 v1 v2 = n at *
  have hs2 := SG_two hA0 (by unfold nb at hA2; omega)
  have hs : nb (SG a) (n + 1) := by unfold nb at *; omega
  have hd := ddiv2 (v := SG a) (u := n) (by unfold nb at hs; omega) (by unfold nb at hs; omega) hz (by omega)
  exact ⟨hA2, hA0, hd.1, hd.2.1, hd.2.2, mulH30 nn (by unfold nb; omega), hA, hs⟩
theorem mul_z (s : Int) : mulV 0 s 30 = 0 ∧ mulH 0 s 30 = satH s := by
  have e : satV 0 = 0 := by decide
  constructor
  · unfold mulV rndS
    rw [e, Int.zero_mul, if_neg (by decide), if_neg (by decide)]; decide
  · unfold mulH rndH
    rw [e, Int.zero_mul]
    have h1 : satH 0 = false := by decide
    have h2 : (decide ((30 : Int) < 0) || (decide ((30 : Int) > 120) || satH (rndV 0 (Int.toNat 30)))) = false := by decide
    rw [h1, h2]; simp
theorem exN_up {a : Int} (ha : nb a 1099511627776) : exN 0 0 a = absV a := by
  obtain ⟨n0, n1, -, -, n2, n3, n4, -⟩ := hyp3 (a := 0) (b := 0) (c := a) (by unfold nb; omega) (by unfold nb; omega) ha
  generalize exN 0 0 a = n at *
  have e : a * a = absV a * absV a := (absSq a).symm
  have ab : 0 ≤ absV a := by unfold absV; split <;> omega
  have hle : absV a ≤ n := by unfold absV; split <;> omega
  rcases Int.lt_or_le (absV a) n with g | g
  · exfalso
    have : (absV a + 1) * absV a ≤ n * (n - 1) := Int.mul_le_mul (by omega) (by omega) ab n0
    have e1 : (absV a + 1) * absV a = absV a * absV a + absV a := by grind
    have e2 : n * (n - 1) = n * n - n := by grind
    omega
  · omega
/-- A product that a rounded quotient makes: v s, where s n is about S. -/
theorem vs_prod {v s n S : Int} (hv : v ≤ n ∧ -v ≤ n) (hn : 1 ≤ n) (hn1 : n ≤ 4294967296) (hs : nb (2 * (s * n - S * 1073741824)) n) (hs1 : nb s 2147483648) : nb (2 * (n * mulV v s 30 - v * S)) (5 * n) ∧ mulH v s 30 = false := by
  have hvn : nb v n := ⟨by omega, hv.1⟩
  have hm := mul30 (a := v) (b := s) (hvn.le (by omega)) (hs1.le (by omega))
  refine ⟨?_, mulH30 (hvn.le (by omega)) (hs1.le (by omega))⟩
  have p := hvn.mul hs
  have q := hm.lmul (show 0 ≤ n by omega)
  generalize mulV v s 30 = d at *
  refine nb.cancel (m := 1073741824) (by omega) ?_
  have e : 1073741824 * (2 * (n * d - v * S)) = n * (2 * (d * 1073741824 - v * s)) + v * (2 * (s * n - S * 1073741824)) := by grind
  rw [e]
  have hnn : n * n ≤ n * 4294967296 := Int.mul_le_mul_of_nonneg_left hn1 (by omega)
  unfold nb at *
  generalize n * (2 * (d * 1073741824 - v * s)) = A at *
  generalize v * (2 * (s * n - S * 1073741824)) = B at *
  generalize n * n = nn at *
  omega
/-- The exponential of an upright vector has its heading. -/
theorem yaws2 {a : Int} (ha : nb a 3221225472) : nb (atanV (rm3 (eV0 0 0 a) (eV1 0 0 a) (eV2 0 0 a) (eV3 0 0 a)) (rm0 (eV0 0 0 a) (eV1 0 0 a) (eV2 0 0 a) (eV3 0 0 a)) - a) 340 ∧
    nb (rm3 (eV0 0 0 a) (eV1 0 0 a) (eV2 0 0 a) (eV3 0 0 a)) 4294967296 ∧ nb (rm0 (eV0 0 0 a) (eV1 0 0 a) (eV2 0 0 a) (eV3 0 0 a)) 4294967296 ∧ UnitQ (eV0 0 0 a) 0 0 (eV3 0 0 a) ∧ eV1 0 0 a = 0 ∧ eV2 0 0 a = 0 ∧ (∀ h, eFl h 0 0 a = h) := by
  have ia : inS a := inS_nb ha (by omega)
  have hN := exN_up (a := a) (ha.le (by omega))
  obtain ⟨-, -, -, -, -, -, -, hH⟩ := hyp3 (a := 0) (b := 0) (c := a) (by unfold nb; omega) (by unfold nb; omega) (ha.le (by omega))
  have hS0 : satV 0 = 0 := by decide
  have hF0 : satH 0 = false := by decide
  have fH0 : ∀ h, exH0 h 0 0 a = h := by
    intro h
    unfold exH0
    rw [hH, hF0, satH_S ia]; simp
  by_cases hz : a = 0
  · subst hz
    have n0 : exN 0 0 0 = 0 := by rw [hN]; decide
    have e0 : eV0 0 0 0 = 1073741824 := by unfold eV0; rw [n0]; rfl
    have e1 : eV1 0 0 0 = 0 := by unfold eV1; rw [n0]; rfl
    have e2 : eV2 0 0 0 = 0 := by unfold eV2; rw [n0]; rfl
    have e3 : eV3 0 0 0 = 0 := by unfold eV3; rw [n0]; rfl
    rw [e0, e1, e2, e3, show rm3 1073741824 0 0 0 = 0 by decide +kernel, show rm0 1073741824 0 0 0 = 1073741824 by decide +kernel, show atanV 0 1073741824 = 0 by decide +kernel]
    refine ⟨by unfold nb; omega, by unfold nb; omega, by unfold nb; omega, ⟨by omega, by omega, by omega, by omega, by unfold nearU n4; omega⟩, rfl, rfl, fun h => ?_⟩
    unfold eFl
    rw [n0]
    exact fH0 h
  · have n1 : 1 ≤ exN 0 0 a := by rw [hN]; unfold absV; split <;> omega
    have n2 : exN 0 0 a ≤ 3221225472 := by unfold nb at ha; rw [hN]; unfold absV; split <;> omega
    obtain ⟨x1, x2, x3, x4, x5, x6, x7, x8⟩ := ex_ok (v0 := 0) (v1 := 0) (v2 := a) (by unfold nb; omega) (by unfold nb; omega) (ha.le (by omega)) (by omega) n1
    have hne : (exN 0 0 a == 0) = false := by simp; omega
    have hv : a ≤ exN 0 0 a ∧ -a ≤ exN 0 0 a := by rw [hN]; unfold absV; split <;> omega
    obtain ⟨v1, v2⟩ := vs_prod hv n1 (by omega) x3 x4
    have e0 : eV0 0 0 a = uV0 (CG (exA 0 0 a)) 0 0 (mulV a (exS 0 0 a) 30) := by unfold eV0; rw [cond_f hne, hS0, (mul_z _).1, cosV_eq, satV_S ia]
    have e1 : eV1 0 0 a = uV1 (CG (exA 0 0 a)) 0 0 (mulV a (exS 0 0 a) 30) := by unfold eV1; rw [cond_f hne, hS0, (mul_z _).1, cosV_eq, satV_S ia]
    have e2 : eV2 0 0 a = uV2 (CG (exA 0 0 a)) 0 0 (mulV a (exS 0 0 a) 30) := by unfold eV2; rw [cond_f hne, hS0, (mul_z _).1, cosV_eq, satV_S ia]
    have e3 : eV3 0 0 a = uV3 (CG (exA 0 0 a)) 0 0 (mulV a (exS 0 0 a) 30) := by unfold eV3; rw [cond_f hne, hS0, (mul_z _).1, cosV_eq, satV_S ia]
    have z := unit_z (CG (exA 0 0 a)) (mulV a (exS 0 0 a) 30)
    have cb := CG_bd (exA 0 0 a)
    have sb := SG_bd (exA 0 0 a)
    have oc := on_circle (exA 0 0 a)
    -- the angle with its sign
    have key : ∃ h, nb (2 * h - a) 1 ∧ CG h = CG (exA 0 0 a) ∧ nb (mulV a (exS 0 0 a) 30 - SG h) 2 := by
      rcases Int.le_total 0 a with g | g
      · refine ⟨exA 0 0 a, ?_, rfl, ?_⟩
        · rw [hN, absV_pos g] at x1; exact x1
        · rw [hN, absV_pos g] at v1 n1
          have e : 2 * (a * mulV a (exS 0 0 a) 30 - a * SG (exA 0 0 a)) = a * (2 * (mulV a (exS 0 0 a) 30 - SG (exA 0 0 a))) := by grind
          rw [e, show 5 * a = a * 5 by omega] at v1
          have := nb.cancel (by omega) v1
          unfold nb at *; omega
      · refine ⟨-exA 0 0 a, ?_, CG_neg _, ?_⟩
        · rw [hN, absV_neg g] at x1; unfold nb at *; omega
        · rw [hN, absV_neg g] at v1 n1
          rw [SG_neg]
          have e : 2 * (-a * mulV a (exS 0 0 a) 30 - a * SG (exA 0 0 a)) = -a * (2 * (mulV a (exS 0 0 a) 30 - -SG (exA 0 0 a))) := by grind
          rw [e, show 5 * -a = -a * 5 by omega] at v1
          have := nb.cancel (by omega) v1
          unfold nb at *; omega
    obtain ⟨h, k1, k2, k3⟩ := key
    have hd : nb (mulV a (exS 0 0 a) 30) 1084000000 := by
      have := SG_bd h
      unfold nb at *; omega
    have hs := SG_bd h
    have och := on_circle h
    rw [k2] at och
    rw [e0, e1, e2, e3, z.1, z.2]
    have hu := unit_ok (CG (exA 0 0 a)) 0 0 (mulV a (exS 0 0 a) 30)
    rw [z.1, z.2] at hu
    have dsq : nb (mulV a (exS 0 0 a) 30 * mulV a (exS 0 0 a) 30 - SG h * SG h) 8589934592 := by
      have e : mulV a (exS 0 0 a) 30 * mulV a (exS 0 0 a) 30 - SG h * SG h = (mulV a (exS 0 0 a) 30 - SG h) * (mulV a (exS 0 0 a) 30 + SG h) := by grind
      rw [e]
      exact (k3.mul ((show nb (mulV a (exS 0 0 a) 30 + SG h) 2147483650 by unfold nb at *; omega))).le (by omega)
    obtain ⟨d1, d2, d3⟩ := unit_dir (a := CG (exA 0 0 a)) (d := mulV a (exS 0 0 a) 30) (cb.le (by omega)) hd (by unfold nb at *; omega) (by unfold nb at *; omega)
    have f0b : nb (uV0 (CG (exA 0 0 a)) 0 0 (mulV a (exS 0 0 a) 30)) 1073741824 := hu.ha
    have hcr : nb (uV3 (CG (exA 0 0 a)) 0 0 (mulV a (exS 0 0 a) 30) * CG h - uV0 (CG (exA 0 0 a)) 0 0 (mulV a (exS 0 0 a) 30) * SG h) 5368709120 := by
      rw [k2]
      have p := f0b.mul k3
      have e : uV3 (CG (exA 0 0 a)) 0 0 (mulV a (exS 0 0 a) 30) * CG (exA 0 0 a) - uV0 (CG (exA 0 0 a)) 0 0 (mulV a (exS 0 0 a) 30) * SG h = (uV3 (CG (exA 0 0 a)) 0 0 (mulV a (exS 0 0 a) 30) * CG (exA 0 0 a) - uV0 (CG (exA 0 0 a)) 0 0 (mulV a (exS 0 0 a) 30) * mulV a (exS 0 0 a) 30) + uV0 (CG (exA 0 0 a)) 0 0 (mulV a (exS 0 0 a) 30) * (mulV a (exS 0 0 a) 30 - SG h) := by grind
      rw [e]
      exact (d1.add p).le (by omega)
    obtain ⟨y1, y2, y3⟩ := yaw_of (h := h) hu hcr
    refine ⟨?_, y2, y3, hu, rfl, rfl, fun hh => ?_⟩
    · generalize rm3 (uV0 (CG (exA 0 0 a)) 0 0 (mulV a (exS 0 0 a) 30)) 0 0 (uV3 (CG (exA 0 0 a)) 0 0 (mulV a (exS 0 0 a) 30)) = y at *
      generalize rm0 (uV0 (CG (exA 0 0 a)) 0 0 (mulV a (exS 0 0 a) 30)) 0 0 (uV3 (CG (exA 0 0 a)) 0 0 (mulV a (exS 0 0 a) 30)) = x at *
      have hb : nb (atanV y x) 3373259426 := by
        by_cases hz : y ≠ 0 ∨ x ≠ 0
        · exact (atan_sg (y2.le (by omega)) (y3.le (by omega)) hz).1
        · have e1 : y = 0 := by omega
          have e2 : x = 0 := by omega
          rw [e1, e2, show atanV 0 0 = 0 by decide +kernel]; unfold nb; omega
      obtain ⟨w0, w1, k, hk⟩ := wrap_spec (atanV y x - 2 * h)
      generalize wrapV (atanV y x - 2 * h) = w at *
      generalize atanV y x = r at *
      unfold nb at *
      omega
    · unfold eFl
      rw [cond_f hne]
      unfold exH1
      rw [fH0, x5, x6, hS0, (mul_z _).2, satH_S (inS_nb x4 (by omega)), satV_S ia, v2, (mul_z _).1, unit_fl, sinH_ok x7, cosH_ok]
      · simp
      · rw [cosV_eq]; exact cb.le (by omega)
      · unfold nb; omega
      · unfold nb; omega
      · exact hd.le (by omega)
end Go.Proofs.Ytnabopepomjncaa

/- The exponential near its direction; half a rotation twice. Plain. -/
namespace Go.Proofs.Ytnabopepomjncaa
open Go.Lr Go.Tg
set_option linter.unusedVariables false
set_option linter.unusedSimpArgs false

/-- The sum of the squares of what is nearly v S / n. -/
theorem sum_sq {n S v0 v1 v2 d0 d1 d2 : Int} (hn : 1 ≤ n) (hS : nb S (n + 1)) (hS1 : nb S 1073741824) (h0 : nb v0 n) (h1 : nb v1 n) (h2 : nb v2 n) (hv : nb (v0 * v0 + (v1 * v1 + v2 * v2) - n * n) n)
    (e0 : nb (2 * (n * d0 - v0 * S)) (5 * n)) (e1 : nb (2 * (n * d1 - v1 * S)) (5 * n)) (e2 : nb (2 * (n * d2 - v2 * S)) (5 * n)) : nb (d0 * d0 + (d1 * d1 + d2 * d2) - S * S) 19327352832 := by
  refine nb.cancel (m := 4 * (n * n)) (by have := Int.mul_pos (show 0 < n by omega) (show 0 < n by omega); omega) ?_
  have hSS := (hS1.mul hS)
  have t0 := hSS.mul hv
  have p0 := hS1.mul (h0.mul e0)
  have p1 := hS1.mul (h1.mul e1)
  have p2 := hS1.mul (h2.mul e2)
  have q0 := e0.mul e0
  have q1 := e1.mul e1
  have q2 := e2.mul e2
  have e : 4 * (n * n) * (d0 * d0 + (d1 * d1 + d2 * d2) - S * S) = 4 * (S * S * (v0 * v0 + (v1 * v1 + v2 * v2) - n * n)) + 4 * (S * (v0 * (2 * (n * d0 - v0 * S)))) + 4 * (S * (v1 * (2 * (n * d1 - v1 * S)))) + 4 * (S * (v2 * (2 * (n * d2 - v2 * S))))
      + 2 * (n * d0 - v0 * S) * (2 * (n * d0 - v0 * S)) + 2 * (n * d1 - v1 * S) * (2 * (n * d1 - v1 * S)) + 2 * (n * d2 - v2 * S) * (2 * (n * d2 - v2 * S)) := by grind
  rw [e]
  have k1 : 1073741824 * (n + 1) * n = 1073741824 * (n * n) + 1073741824 * n := by grind
  have k2 : 1073741824 * (n * (5 * n)) = 5368709120 * (n * n) := by grind
  have k3 : 5 * n * (5 * n) = 25 * (n * n) := by grind
  have k4 : 4 * (n * n) * 19327352832 = 77309411328 * (n * n) := by grind
  have k5 : n ≤ n * n := by have := Int.mul_le_mul_of_nonneg_left hn (show 0 ≤ n by omega); omega
  rw [k1] at t0
  rw [k2] at p0 p1 p2
  rw [k3] at q0 q1 q2
  rw [k4]
  unfold nb at t0 p0 p1 p2 q0 q1 q2 ⊢
  generalize S * S * (v0 * v0 + (v1 * v1 + v2 * v2) - n * n) = T at *
  generalize S * (v0 * (2 * (n * d0 - v0 * S))) = P0 at *
  generalize S * (v1 * (2 * (n * d1 - v1 * S))) = P1 at *
  generalize S * (v2 * (2 * (n * d2 - v2 * S))) = P2 at *
  generalize 2 * (n * d0 - v0 * S) * (2 * (n * d0 - v0 * S)) = Q0 at *
  generalize 2 * (n * d1 - v1 * S) * (2 * (n * d1 - v1 * S)) = Q1 at *
  generalize 2 * (n * d2 - v2 * S) * (2 * (n * d2 - v2 * S)) = Q2 at *
  generalize n * n = nn at *
  omega
/-- The exponential: near the cosine, and the vector's part of the sine. -/
structure ExpN (v0 v1 v2 n al C S d0 d1 d2 : Int) : Prop where
  n1 : 1 ≤ n
  al2 : nb (2 * al - n) 1
  al0 : 0 ≤ al
  eC : C = CG al
  eS : S = SG al
  b0 : nb v0 n
  b1 : nb v1 n
  b2 : nb v2 n
  hv : nb (v0 * v0 + (v1 * v1 + v2 * v2) - n * n) n
  e0 : nb (2 * (n * d0 - v0 * S)) (5 * n)
  e1 : nb (2 * (n * d1 - v1 * S)) (5 * n)
  e2 : nb (2 * (n * d2 - v2 * S)) (5 * n)
  x0 : nb (eV0 v0 v1 v2 - C) 28
  x1 : nb (eV1 v0 v1 v2 - d0) 28
  x2 : nb (eV2 v0 v1 v2 - d1) 28
  x3 : nb (eV3 v0 v1 v2 - d2) 28
  sn : nb S (n + 1)
theorem d_le {n d v S : Int} (hn : 1 ≤ n) (hv : nb v n) (hS : nb S 1073741824) (he : nb (2 * (n * d - v * S)) (5 * n)) : nb d 1073741827 := by
  have p := hv.mul hS
  refine nb.cancel (m := n) (by omega) ?_
  unfold nb at *
  generalize n * d = X at *
  generalize v * S = Y at *
  omega
theorem exp_near {v0 v1 v2 : Int} (h0 : nb v0 2147483648) (h1 : nb v1 2147483648) (h2 : nb v2 2147483648) (hz : 1 ≤ exN v0 v1 v2) :
    ExpN v0 v1 v2 (exN v0 v1 v2) (exA v0 v1 v2) (CG (exA v0 v1 v2)) (SG (exA v0 v1 v2)) (mulV v0 (exS v0 v1 v2) 30) (mulV v1 (exS v0 v1 v2) 30) (mulV v2 (exS v0 v1 v2) 30) ∧ (∀ h, eFl h v0 v1 v2 = h) ∧ exN v0 v1 v2 ≤ 3758096384 := by
  obtain ⟨n0, -, s0, s1, s2, n3, n4', hH⟩ := hyp3 (a := v0) (b := v1) (c := v2) (h0.le (by omega)) (h1.le (by omega)) (h2.le (by omega))
  have hnu : exN v0 v1 v2 ≤ 3758096384 := by
    generalize exN v0 v1 v2 = n at *
    have q0 := (h0.mul h0).2
    have q1 := (h1.mul h1).2
    have q2 := (h2.mul h2).2
    rcases Int.lt_or_le 3758096384 n with g | g
    · exfalso
      have : 3758096385 * 3758096384 ≤ n * (n - 1) := Int.mul_le_mul (by omega) (by omega) (by omega) (by omega)
      have e2 : n * (n - 1) = n * n - n := by grind
      omega
    · exact g
  obtain ⟨x1, x2, x3, x4, x5, x6, x7, x8⟩ := ex_ok (h0.le (by omega)) (h1.le (by omega)) (h2.le (by omega)) (by omega) hz
  have hne : (exN v0 v1 v2 == 0) = false := by simp; omega
  obtain ⟨a0, f0⟩ := vs_prod s0 hz (by omega) x3 x4
  obtain ⟨a1, f1⟩ := vs_prod s1 hz (by omega) x3 x4
  obtain ⟨a2, f2⟩ := vs_prod s2 hz (by omega) x3 x4
  have i0 := inS_nb h0 (by omega)
  have i1 := inS_nb h1 (by omega)
  have i2 := inS_nb h2 (by omega)
  have cb := CG_bd (exA v0 v1 v2)
  have sb := SG_bd (exA v0 v1 v2)
  have oc := on_circle (exA v0 v1 v2)
  have hvv : nb (v0 * v0 + (v1 * v1 + v2 * v2) - exN v0 v1 v2 * exN v0 v1 v2) (exN v0 v1 v2) := by unfold nb; omega
  have b0 : nb v0 (exN v0 v1 v2) := ⟨by omega, s0.1⟩
  have b1 : nb v1 (exN v0 v1 v2) := ⟨by omega, s1.1⟩
  have b2 : nb v2 (exN v0 v1 v2) := ⟨by omega, s2.1⟩
  have ss := sum_sq hz x8 sb b0 b1 b2 hvv a0 a1 a2
  have l0 := d_le hz b0 sb a0
  have l1 := d_le hz b1 sb a1
  have l2 := d_le hz b2 sb a2
  have u := unit_near (k := 23) (cb.le (show (1073741824 : Int) ≤ 2147483648 by omega)) (l0.le (show (1073741827 : Int) ≤ 2147483648 by omega)) (l1.le (show (1073741827 : Int) ≤ 2147483648 by omega)) (l2.le (show (1073741827 : Int) ≤ 2147483648 by omega)) (by omega) (by omega) (by unfold n4; unfold nb at *; omega)
  have e0 : eV0 v0 v1 v2 = uV0 (CG (exA v0 v1 v2)) (mulV v0 (exS v0 v1 v2) 30) (mulV v1 (exS v0 v1 v2) 30) (mulV v2 (exS v0 v1 v2) 30) := by unfold eV0; rw [cond_f hne, cosV_eq, satV_S i0, satV_S i1, satV_S i2]
  have e1 : eV1 v0 v1 v2 = uV1 (CG (exA v0 v1 v2)) (mulV v0 (exS v0 v1 v2) 30) (mulV v1 (exS v0 v1 v2) 30) (mulV v2 (exS v0 v1 v2) 30) := by unfold eV1; rw [cond_f hne, cosV_eq, satV_S i0, satV_S i1, satV_S i2]
  have e2 : eV2 v0 v1 v2 = uV2 (CG (exA v0 v1 v2)) (mulV v0 (exS v0 v1 v2) 30) (mulV v1 (exS v0 v1 v2) 30) (mulV v2 (exS v0 v1 v2) 30) := by unfold eV2; rw [cond_f hne, cosV_eq, satV_S i0, satV_S i1, satV_S i2]
  have e3 : eV3 v0 v1 v2 = uV3 (CG (exA v0 v1 v2)) (mulV v0 (exS v0 v1 v2) 30) (mulV v1 (exS v0 v1 v2) 30) (mulV v2 (exS v0 v1 v2) 30) := by unfold eV3; rw [cond_f hne, cosV_eq, satV_S i0, satV_S i1, satV_S i2]
  refine ⟨⟨hz, x1, x2, rfl, rfl, b0, b1, b2, hvv, a0, a1, a2, by rw [e0]; exact u.1, by rw [e1]; exact u.2.1, by rw [e2]; exact u.2.2.1, by rw [e3]; exact u.2.2.2, x8⟩, fun h => ?_, hnu⟩
  unfold eFl
  rw [cond_f hne]
  unfold exH1 exH0
  rw [hH, x5, x6, satH_S i0, satH_S i1, satH_S i2, satV_S i0, satV_S i1, satV_S i2, f0, f1, f2, unit_fl, sinH_ok x7, cosH_ok]
  · simp
  · rw [cosV_eq]; exact cb.le (by omega)
  · exact l0.le (by omega)
  · exact l1.le (by omega)
  · exact l2.le (by omega)
/-- One or two units more: the cosine and the sine hardly turn. -/
theorem CG_near {a b : Int} (h : nb (a - b) 2) : nb (CG a - CG b) 31 ∧ nb (SG a - SG b) 31 := by
  obtain ⟨s1, s2⟩ := sum_all b (a - b)
  rw [show b + (a - b) = a by omega] at s1 s2
  have cb := CG_bd b
  have sb := SG_bd b
  have hC : nb (CG (a - b) - 1073741824) 0 ∧ nb (SG (a - b)) 2 := by
    generalize a - b = d at *
    have hd : d = -2 ∨ d = -1 ∨ d = 0 ∨ d = 1 ∨ d = 2 := by unfold nb at h; omega
    have vc1 : CG 1 = 1073741824 := by decide +kernel
    have vc2 : CG 2 = 1073741824 := by decide +kernel
    have vs1 : SG 1 = 1 := by decide +kernel
    have vs2 : SG 2 = 2 := by decide +kernel
    rcases hd with rfl | rfl | rfl | rfl | rfl
    · rw [show (-2 : Int) = -(2) by omega, CG_neg, SG_neg, vc2, vs2]; unfold nb; omega
    · rw [show (-1 : Int) = -(1) by omega, CG_neg, SG_neg, vc1, vs1]; unfold nb; omega
    · rw [CG_0, SG_0]; unfold nb; omega
    · rw [vc1, vs1]; unfold nb; omega
    · rw [vc2, vs2]; unfold nb; omega
  have e : CG (a - b) = 1073741824 := by have := hC.1; unfold nb at this; omega
  rw [e] at s1 s2
  have p1 := sb.mul hC.2
  have p2 := cb.mul hC.2
  generalize SG b * SG (a - b) = x at *
  generalize CG b * SG (a - b) = y at *
  unfold nb at *
  omega
/-- A product of two numbers near others. -/
theorem mul_near {a b x y k B : Int} (ha : nb (a - x) k) (hb : nb (b - y) k) (hx : nb x B) (hy : nb y B) : nb (a * b - x * y) (2 * (k * B) + k * k) := by
  have e : a * b - x * y = (a - x) * y + (b - y) * x + (a - x) * (b - y) := by grind
  have p1 := ha.mul hy
  have p2 := hb.mul hx
  have p3 := ha.mul hb
  rw [e]
  unfold nb at *
  omega
/-- The two lengths. -/
theorem len_two {N M n m : Int} (hN : M = 4 * N) (n1 : 1 ≤ n) (m0 : 0 ≤ m) (a1 : N ≤ n * n + n) (a2 : n * n - n < N) (b1 : M ≤ m * m + m) (b2 : m = 0 ∨ m * m - m < M) : nb (m - 2 * n) 2 ∧ 1 ≤ m := by
  have hm1 : 1 ≤ m := by
    rcases Int.lt_or_le m 1 with g | g
    · exfalso
      have : m = 0 := by omega
      subst this
      have : 1 ≤ N := by
        have := Int.mul_le_mul_of_nonneg_left n1 (show 0 ≤ n by omega)
        omega
      omega
    · exact g
  have hm : m ≤ 2 * n + 2 := by
    rcases Int.lt_or_le (2 * n + 2) m with g | g
    · exfalso
      have : (2 * n + 3) * (2 * n + 2) ≤ m * (m - 1) := Int.mul_le_mul (by omega) (by omega) (by omega) (by omega)
      have e1 : (2 * n + 3) * (2 * n + 2) = 4 * (n * n) + 10 * n + 6 := by grind
      have e2 : m * (m - 1) = m * m - m := by grind
      omega
    · exact g
  have hm2 : 2 * n - 2 ≤ m := by
    rcases Int.lt_or_le m (2 * n - 2) with g | g
    · exfalso
      have : m * (m + 1) ≤ (2 * n - 3) * (2 * n - 2) := Int.mul_le_mul (by omega) (by omega) (by omega) (by omega)
      have e1 : (2 * n - 3) * (2 * n - 2) = 4 * (n * n) - 10 * n + 6 := by grind
      have e2 : m * (m + 1) = m * m + m := by grind
      omega
    · exact g
  exact ⟨by unfold nb; omega, hm1⟩
/-- A part of half a rotation's product against the whole's. -/
theorem part_near {n m x d D S T C : Int} (n1 : 1 ≤ n) (m1 : 1 ≤ m) (hm : nb (m - 2 * n) 2) (hx : nb x n) (hT : nb T (m + 1)) (hd : nb (2 * (n * d - x * S)) (5 * n)) (hD : nb (2 * (m * D - 2 * x * T)) (5 * m))
    (hC : nb C 1073741824) (hZ : nb (2 * (S * C) - 1073741824 * T) 64424509440) : nb (2 * (C * d) - 1073741824 * D) 85899345920 := by
  refine nb.cancel (m := 2 * (n * m)) (by have := Int.mul_pos (show 0 < n by omega) (show 0 < m by omega); omega) ?_
  have p1 := (hx.mul (hT.mul hm)).lmul (show (0 : Int) ≤ 2147483648 by omega)
  have p2 := (hx.mul hZ).lmul (show 0 ≤ 2 * m by omega)
  have p3 := (hC.mul hd).lmul (show 0 ≤ 2 * m by omega)
  have p4 := hD.lmul (show 0 ≤ 1073741824 * n by omega)
  have e : 2 * (n * m) * (2 * (C * d) - 1073741824 * D) = 2147483648 * (x * (T * (m - 2 * n))) + 2 * m * (x * (2 * (S * C) - 1073741824 * T)) + 2 * m * (C * (2 * (n * d - x * S))) - 1073741824 * n * (2 * (m * D - 2 * x * T)) := by grind
  rw [e]
  have k1 : 2147483648 * (n * ((m + 1) * 2)) = 4294967296 * (n * m) + 4294967296 * n := by grind
  have k2 : 2 * m * (n * 64424509440) = 128849018880 * (n * m) := by grind
  have k3 : 2 * m * (1073741824 * (5 * n)) = 10737418240 * (n * m) := by grind
  have k4 : 1073741824 * n * (5 * m) = 5368709120 * (n * m) := by grind
  have k5 : 2 * (n * m) * 85899345920 = 171798691840 * (n * m) := by grind
  have k6 : n ≤ n * m := by have := Int.mul_le_mul_of_nonneg_left m1 (show 0 ≤ n by omega); omega
  rw [k1] at p1
  rw [k2] at p2
  rw [k3] at p3
  rw [k4] at p4
  rw [k5]
  unfold nb at p1 p2 p3 p4 ⊢
  generalize 2147483648 * (x * (T * (m - 2 * n))) = A at *
  generalize 2 * m * (x * (2 * (S * C) - 1073741824 * T)) = B at *
  generalize 2 * m * (C * (2 * (n * d - x * S))) = D1 at *
  generalize 1073741824 * n * (2 * (m * D - 2 * x * T)) = E at *
  generalize n * m = nm at *
  omega
/-- Half a rotation twice: its parts against the whole's. -/
theorem twice_num {x0 x1 x2 n al C S d0 d1 d2 y0 y1 y2 m be K T D0 D1 D2 : Int} (h : ExpN x0 x1 x2 n al C S d0 d1 d2) (g : ExpN y0 y1 y2 m be K T D0 D1 D2) (e0 : y0 = 2 * x0) (e1 : y1 = 2 * x1) (e2 : y2 = 2 * x2) (hm : nb (m - 2 * n) 2) :
    nb (rndV (q0 (eV0 x0 x1 x2) (eV1 x0 x1 x2) (eV2 x0 x1 x2) (eV3 x0 x1 x2) (eV0 x0 x1 x2) (eV1 x0 x1 x2) (eV2 x0 x1 x2) (eV3 x0 x1 x2)) 30 - eV0 y0 y1 y2) 400 ∧
    nb (rndV (q1 (eV0 x0 x1 x2) (eV1 x0 x1 x2) (eV2 x0 x1 x2) (eV3 x0 x1 x2) (eV0 x0 x1 x2) (eV1 x0 x1 x2) (eV2 x0 x1 x2) (eV3 x0 x1 x2)) 30 - eV1 y0 y1 y2) 400 ∧
    nb (rndV (q2 (eV0 x0 x1 x2) (eV1 x0 x1 x2) (eV2 x0 x1 x2) (eV3 x0 x1 x2) (eV0 x0 x1 x2) (eV1 x0 x1 x2) (eV2 x0 x1 x2) (eV3 x0 x1 x2)) 30 - eV2 y0 y1 y2) 400 ∧
    nb (rndV (q3 (eV0 x0 x1 x2) (eV1 x0 x1 x2) (eV2 x0 x1 x2) (eV3 x0 x1 x2) (eV0 x0 x1 x2) (eV1 x0 x1 x2) (eV2 x0 x1 x2) (eV3 x0 x1 x2)) 30 - eV3 y0 y1 y2) 400 := by
  obtain ⟨n1, al2, al0, rfl, rfl, b0, b1, b2, hv, f0, f1, f2, u0, u1, u2, u3, sn⟩ := h
  obtain ⟨m1, be2, be0, rfl, rfl, c0, c1, c2, gv, g0, g1, g2, w0, w1, w2, w3, tn⟩ := g
  subst e0 e1 e2
  have cb := CG_bd al
  have sb := SG_bd al
  have kb := CG_bd be
  have tb := SG_bd be
  have oc := on_circle al
  obtain ⟨s1, s2⟩ := sum_all al al
  have hab : nb (al + al - be) 2 := by unfold nb at *; omega
  obtain ⟨r1, r2⟩ := CG_near hab
  generalize CG (al + al) = C2 at *
  generalize SG (al + al) = S2 at *
  generalize CG al = C at *
  generalize SG al = S at *
  generalize CG be = K at *
  generalize SG be = T at *
  have hZ : nb (2 * (S * C) - 1073741824 * T) 64424509440 := by
    have e : C * S = S * C := Int.mul_comm ..
    rw [e] at s2
    generalize S * C = SC at *
    unfold nb at *; omega
  have P0 := part_near n1 m1 hm b0 tn f0 g0 cb hZ
  have P1 := part_near n1 m1 hm b1 tn f1 g1 cb hZ
  have P2 := part_near n1 m1 hm b2 tn f2 g2 cb hZ
  have ss := sum_sq n1 sn sb b0 b1 b2 hv f0 f1 f2
  have l0 := d_le n1 b0 sb f0
  have l1 := d_le n1 b1 sb f1
  have l2 := d_le n1 b2 sb f2
  have cb' := cb.le (show (1073741824 : Int) ≤ 1073741827 by omega)
  generalize eV0 x0 x1 x2 = a0 at *
  generalize eV1 x0 x1 x2 = a1 at *
  generalize eV2 x0 x1 x2 = a2 at *
  generalize eV3 x0 x1 x2 = a3 at *
  generalize eV0 (2 * x0) (2 * x1) (2 * x2) = z0 at *
  generalize eV1 (2 * x0) (2 * x1) (2 * x2) = z1 at *
  generalize eV2 (2 * x0) (2 * x1) (2 * x2) = z2 at *
  generalize eV3 (2 * x0) (2 * x1) (2 * x2) = z3 at *
  have m00 := mul_near u0 u0 cb' cb'
  have m11 := mul_near u1 u1 l0 l0
  have m22 := mul_near u2 u2 l1 l1
  have m33 := mul_near u3 u3 l2 l2
  have m01 := mul_near u0 u1 cb' l0
  have m02 := mul_near u0 u2 cb' l1
  have m03 := mul_near u0 u3 cb' l2
  refine ⟨?_, ?_, ?_, ?_⟩
  · have r := rn30 (q0 a0 a1 a2 a3 a0 a1 a2 a3)
    have e : q0 a0 a1 a2 a3 a0 a1 a2 a3 = a0 * a0 - a1 * a1 - a2 * a2 - a3 * a3 := rfl
    rw [e] at r ⊢
    generalize rndV (a0 * a0 - a1 * a1 - a2 * a2 - a3 * a3) 30 = R at *
    unfold nb at *
    generalize a0 * a0 = A0 at *
    generalize a1 * a1 = A1 at *
    generalize a2 * a2 = A2 at *
    generalize a3 * a3 = A3 at *
    generalize C * C = CC at *
    generalize S * S = SS at *
    generalize d0 * d0 = dd0 at *
    generalize d1 * d1 = dd1 at *
    generalize d2 * d2 = dd2 at *
    clear m01 m02 m03 P0 P1 P2
    omega
  · have r := rn30 (q1 a0 a1 a2 a3 a0 a1 a2 a3)
    have e : q1 a0 a1 a2 a3 a0 a1 a2 a3 = 2 * (a0 * a1) := by unfold q1; grind
    rw [e] at r ⊢
    generalize rndV (2 * (a0 * a1)) 30 = R at *
    unfold nb at *
    generalize a0 * a1 = A at *
    generalize C * d0 = B at *
    clear m00 m11 m22 m33 m02 m03 P1 P2
    omega
  · have r := rn30 (q2 a0 a1 a2 a3 a0 a1 a2 a3)
    have e : q2 a0 a1 a2 a3 a0 a1 a2 a3 = 2 * (a0 * a2) := by unfold q2; grind
    rw [e] at r ⊢
    generalize rndV (2 * (a0 * a2)) 30 = R at *
    unfold nb at *
    generalize a0 * a2 = A at *
    generalize C * d1 = B at *
    clear m00 m11 m22 m33 m01 m03 P0 P2
    omega
  · have r := rn30 (q3 a0 a1 a2 a3 a0 a1 a2 a3)
    have e : q3 a0 a1 a2 a3 a0 a1 a2 a3 = 2 * (a0 * a3) := by unfold q3; grind
    rw [e] at r ⊢
    generalize rndV (2 * (a0 * a3)) 30 = R at *
    unfold nb at *
    generalize a0 * a3 = A at *
    generalize C * d2 = B at *
    clear m00 m11 m22 m33 m01 m02 P0 P1
    omega
end Go.Proofs.Ytnabopepomjncaa

/- Half a rotation twice, all cases; small rotations; turned vectors. Plain. -/
namespace Go.Proofs.Ytnabopepomjncaa
open Go.Lr Go.Tg
set_option linter.unusedVariables false
set_option linter.unusedSimpArgs false

/-- An exponential is a Unit. -/
theorem eV_unit (v0 v1 v2 : Int) : UnitQ (eV0 v0 v1 v2) (eV1 v0 v1 v2) (eV2 v0 v1 v2) (eV3 v0 v1 v2) := by
  unfold eV0 eV1 eV2 eV3
  rcases bool_cases (exN v0 v1 v2 == 0) with h | h
  · rw [cond_t h, cond_t h, cond_t h, cond_t h]
    exact ⟨by omega, by omega, by omega, by omega, by unfold nearU n4; omega⟩
  · rw [cond_f h, cond_f h, cond_f h, cond_f h]
    exact unit_ok _ _ _ _
/-- No rotation. -/
theorem exp_zero {v0 v1 v2 : Int} (h0 : nb v0 2147483648) (h1 : nb v1 2147483648) (h2 : nb v2 2147483648) (hz : exN v0 v1 v2 < 1) : v0 = 0 ∧ v1 = 0 ∧ v2 = 0 ∧ eV0 v0 v1 v2 = 1073741824 ∧ eV1 v0 v1 v2 = 0 ∧ eV2 v0 v1 v2 = 0 ∧ eV3 v0 v1 v2 = 0 ∧ (∀ h, eFl h v0 v1 v2 = h) := by
  obtain ⟨n0, -, s0, s1, s2, n3, n4', hH⟩ := hyp3 (a := v0) (b := v1) (c := v2) (h0.le (by omega)) (h1.le (by omega)) (h2.le (by omega))
  have hn : exN v0 v1 v2 = 0 := by omega
  have hb : (exN v0 v1 v2 == 0) = true := by rw [hn]; rfl
  rw [hn] at s0 s1 s2
  refine ⟨by omega, by omega, by omega, by unfold eV0; rw [cond_t hb], by unfold eV1; rw [cond_t hb], by unfold eV2; rw [cond_t hb], by unfold eV3; rw [cond_t hb], fun h => ?_⟩
  unfold eFl
  rw [cond_t hb]
  unfold exH0
  rw [hH, satH_S (inS_nb h0 (by omega)), satH_S (inS_nb h1 (by omega)), satH_S (inS_nb h2 (by omega))]
  simp
theorem exp_fl {v0 v1 v2 : Int} (h0 : nb v0 2147483648) (h1 : nb v1 2147483648) (h2 : nb v2 2147483648) (h : Bool) : eFl h v0 v1 v2 = h := by
  rcases Int.lt_or_le (exN v0 v1 v2) 1 with g | g
  · exact (exp_zero h0 h1 h2 g).2.2.2.2.2.2.2 h
  · exact (exp_near h0 h1 h2 g).2.1 h
/-- Half a rotation twice. -/
theorem twice_all {x0 x1 x2 : Int} (h0 : nb x0 805306368) (h1 : nb x1 805306368) (h2 : nb x2 805306368) :
    nb (mq0 (eV0 x0 x1 x2) (eV1 x0 x1 x2) (eV2 x0 x1 x2) (eV3 x0 x1 x2) (eV0 x0 x1 x2) (eV1 x0 x1 x2) (eV2 x0 x1 x2) (eV3 x0 x1 x2) - eV0 (2 * x0) (2 * x1) (2 * x2)) 400 ∧
    nb (mq1 (eV0 x0 x1 x2) (eV1 x0 x1 x2) (eV2 x0 x1 x2) (eV3 x0 x1 x2) (eV0 x0 x1 x2) (eV1 x0 x1 x2) (eV2 x0 x1 x2) (eV3 x0 x1 x2) - eV1 (2 * x0) (2 * x1) (2 * x2)) 400 ∧
    nb (mq2 (eV0 x0 x1 x2) (eV1 x0 x1 x2) (eV2 x0 x1 x2) (eV3 x0 x1 x2) (eV0 x0 x1 x2) (eV1 x0 x1 x2) (eV2 x0 x1 x2) (eV3 x0 x1 x2) - eV2 (2 * x0) (2 * x1) (2 * x2)) 400 ∧
    nb (mq3 (eV0 x0 x1 x2) (eV1 x0 x1 x2) (eV2 x0 x1 x2) (eV3 x0 x1 x2) (eV0 x0 x1 x2) (eV1 x0 x1 x2) (eV2 x0 x1 x2) (eV3 x0 x1 x2) - eV3 (2 * x0) (2 * x1) (2 * x2)) 400 ∧
    (∀ h, mulQH h (eV0 x0 x1 x2) (eV1 x0 x1 x2) (eV2 x0 x1 x2) (eV3 x0 x1 x2) (eV0 x0 x1 x2) (eV1 x0 x1 x2) (eV2 x0 x1 x2) (eV3 x0 x1 x2) = h) ∧ (∀ h, eFl h x0 x1 x2 = h) ∧ (∀ h, eFl h (2 * x0) (2 * x1) (2 * x2) = h) := by
  have u := eV_unit x0 x1 x2
  have o0 := (show one (eV0 x0 x1 x2) from u.ha).sm
  have o1 := (show one (eV1 x0 x1 x2) from u.hb).sm
  have o2 := (show one (eV2 x0 x1 x2) from u.hc).sm
  have o3 := (show one (eV3 x0 x1 x2) from u.hd).sm
  obtain ⟨e0, e1, e2, e3, ef⟩ := mq_eq o0 o1 o2 o3 o0 o1 o2 o3
  have k0 : nb (2 * x0) 2147483648 := by unfold nb at *; omega
  have k1 : nb (2 * x1) 2147483648 := by unfold nb at *; omega
  have k2 : nb (2 * x2) 2147483648 := by unfold nb at *; omega
  have l0 := h0.le (show (805306368 : Int) ≤ 2147483648 by omega)
  have l1 := h1.le (show (805306368 : Int) ≤ 2147483648 by omega)
  have l2 := h2.le (show (805306368 : Int) ≤ 2147483648 by omega)
  refine ⟨?_, ?_, ?_, ?_, ef, exp_fl l0 l1 l2, exp_fl k0 k1 k2⟩ <;> (
    rcases Int.lt_or_le (exN x0 x1 x2) 1 with g | g
    · obtain ⟨z0, z1, z2, t0, t1, t2, t3, -⟩ := exp_zero l0 l1 l2 g
      subst z0 z1 z2
      have w0 : (2 : Int) * 0 = 0 := by omega
      rw [w0]
      first
        | rw [e0, t0, t1, t2, t3, show rndV (q0 1073741824 0 0 0 1073741824 0 0 0) 30 = 1073741824 by decide +kernel]; unfold nb; omega
        | rw [e1, t0, t1, t2, t3, show rndV (q1 1073741824 0 0 0 1073741824 0 0 0) 30 = 0 by decide +kernel]; unfold nb; omega
        | rw [e2, t0, t1, t2, t3, show rndV (q2 1073741824 0 0 0 1073741824 0 0 0) 30 = 0 by decide +kernel]; unfold nb; omega
        | rw [e3, t0, t1, t2, t3, show rndV (q3 1073741824 0 0 0 1073741824 0 0 0) 30 = 0 by decide +kernel]; unfold nb; omega
    · obtain ⟨hA, -, -⟩ := exp_near l0 l1 l2 g
      obtain ⟨n0, -, -, -, -, n3, n4', -⟩ := hyp3 (a := x0) (b := x1) (c := x2) (l0.le (by omega)) (l1.le (by omega)) (l2.le (by omega))
      obtain ⟨m0, -, -, -, -, m3, m4, -⟩ := hyp3 (a := 2 * x0) (b := 2 * x1) (c := 2 * x2) (k0.le (by omega)) (k1.le (by omega)) (k2.le (by omega))
      obtain ⟨p1, p2⟩ := len_two (N := x0 * x0 + (x1 * x1 + x2 * x2)) (M := 2 * x0 * (2 * x0) + (2 * x1 * (2 * x1) + 2 * x2 * (2 * x2))) (n := exN x0 x1 x2) (m := exN (2 * x0) (2 * x1) (2 * x2)) (by grind) g m0 n3 (by omega) m3 m4
      obtain ⟨hB, -, -⟩ := exp_near k0 k1 k2 p2
      have T := twice_num hA hB rfl rfl rfl p1
      first
        | (rw [e0]; exact T.1)
        | (rw [e1]; exact T.2.1)
        | (rw [e2]; exact T.2.2.1)
        | (rw [e3]; exact T.2.2.2))
end Go.Proofs.Ytnabopepomjncaa

/- Matrices of Units: turned vectors. Plain. -/
namespace Go.Proofs.Ytnabopepomjncaa
open Go.Lr Go.Tg
set_option linter.unusedVariables false
set_option linter.unusedSimpArgs false

/-- A row times a vector. -/
theorem dot3 {x0 x1 x2 y0 y1 y2 : Int} (a0 : nb x0 4294967296) (a1 : nb x1 4294967296) (a2 : nb x2 4294967296) (b0 : nb y0 4398046511104) (b1 : nb y1 4398046511104) (b2 : nb y2 4398046511104) :
    nb (2 * (dotV 30 [x0, x1, x2] [y0, y1, y2] * 1073741824 - (x0 * y0 + x1 * y1 + x2 * y2))) 1073741824 ∧ dotH 30 [x0, x1, x2] [y0, y1, y2] = false := by
  have m0 := a0.mul b0
  have m1 := a1.mul b1
  have m2 := a2.mul b2
  have i0 := inS_nb a0 (by omega)
  have i1 := inS_nb a1 (by omega)
  have i2 := inS_nb a2 (by omega)
  have j0 := inS_nb b0 (by omega)
  have j1 := inS_nb b1 (by omega)
  have j2 := inS_nb b2 (by omega)
  have e : dotS [x0, x1, x2] [y0, y1, y2] = x0 * y0 + x1 * y1 + x2 * y2 := by
    simp only [dotS]
    rw [satV_S i0, satV_S i1, satV_S i2, satV_S j0, satV_S j1, satV_S j2]
    omega
  have f : dotFl [x0, x1, x2] [y0, y1, y2] = false := by
    simp only [dotFl]
    rw [satH_S i0, satH_S i1, satH_S i2, satH_S j0, satH_S j1, satH_S j2]
    rfl
  have hb := rn30 (x0 * y0 + x1 * y1 + x2 * y2)
  have g : rndS (x0 * y0 + x1 * y1 + x2 * y2) 30 = rndV (x0 * y0 + x1 * y1 + x2 * y2) 30 ∧ rndH (x0 * y0 + x1 * y1 + x2 * y2) 30 = false := by
    unfold nb at *
    unfold rndS rndH
    rw [if_neg (by decide), if_neg (by decide), show Int.toNat 30 = 30 from rfl, sat_in (by omega) (by omega), satH_in (by omega) (by omega)]
    exact ⟨rfl, by decide⟩
  constructor
  · show nb (2 * (rndS (dotS [x0, x1, x2] [y0, y1, y2]) 30 * 1073741824 - (x0 * y0 + x1 * y1 + x2 * y2))) 1073741824
    rw [e, g.1]; exact hb
  · show (dotFl [x0, x1, x2] [y0, y1, y2] || rndH (dotS [x0, x1, x2] [y0, y1, y2]) 30) = false
    rw [e, f, g.2]; rfl
/-- An entry's exact value is at most the length's square. -/
theorem mx_le (s0 s1 s2 s3 : Int) : nb (mx0 s0 s1 s2 s3) (n4 s0 s1 s2 s3) ∧ nb (mx1 s0 s1 s2 s3) (n4 s0 s1 s2 s3) ∧ nb (mx2 s0 s1 s2 s3) (n4 s0 s1 s2 s3) ∧ nb (mx3 s0 s1 s2 s3) (n4 s0 s1 s2 s3) ∧ nb (mx4 s0 s1 s2 s3) (n4 s0 s1 s2 s3) ∧ nb (mx5 s0 s1 s2 s3) (n4 s0 s1 s2 s3) ∧ nb (mx6 s0 s1 s2 s3) (n4 s0 s1 s2 s3) ∧ nb (mx7 s0 s1 s2 s3) (n4 s0 s1 s2 s3) ∧ nb (mx8 s0 s1 s2 s3) (n4 s0 s1 s2 s3) := by
  have q0 := sqnn0 s0
  have q1 := sqnn0 s1
  have q2 := sqnn0 s2
  have q3 := sqnn0 s3
  have am : ∀ a b : Int, nb (2 * (a * b)) (a * a + b * b) := by
    intro a b
    have h1 := sqnn0 (a - b)
    have h2 := sqnn0 (a + b)
    have e1 : (a - b) * (a - b) = a * a - 2 * (a * b) + b * b := by grind
    have e2 : (a + b) * (a + b) = a * a + 2 * (a * b) + b * b := by grind
    unfold nb; omega
  have p12 := am s1 s2
  have p03 := am s0 s3
  have p13 := am s1 s3
  have p02 := am s0 s2
  have p23 := am s2 s3
  have p01 := am s0 s1
  unfold nb at *
  unfold mx0 mx1 mx2 mx3 mx4 mx5 mx6 mx7 mx8 n4
  generalize s0 * s0 = a0 at *
  generalize s1 * s1 = a1 at *
  generalize s2 * s2 = a2 at *
  generalize s3 * s3 = a3 at *
  omega
/-- The product of two entries against the exact one. -/
theorem ent {m n M N : Int} (hm : nb (2 * (m * 1073741824 - M)) 1073741824) (hn : nb (2 * (n * 1073741824 - N)) 1073741824) (bM : nb M 1152921508365000000) (bN : nb N 1152921508365000000) :
    nb (1152921504606846976 * (m * n) - M * N) 1237940043700000000000000000 := by
  have a := bM.mul hn
  have b := bN.mul hm
  have c := hm.mul hn
  have e : 4 * (1152921504606846976 * (m * n) - M * N) = 2 * (M * (2 * (n * 1073741824 - N))) + 2 * (N * (2 * (m * 1073741824 - M))) + 2 * (m * 1073741824 - M) * (2 * (n * 1073741824 - N)) := by grind
  unfold nb at *
  generalize M * (2 * (n * 1073741824 - N)) = A at *
  generalize N * (2 * (m * 1073741824 - M)) = B at *
  generalize 2 * (m * 1073741824 - M) * (2 * (n * 1073741824 - N)) = C at *
  generalize 1152921504606846976 * (m * n) - M * N = X at *
  omega
/-- The columns of a matrix: of length one, upright on one another. -/
structure Cols (m0 m1 m2 m3 m4 m5 m6 m7 m8 : Int) : Prop where
  c00 : nb (m0 * m0 + m3 * m3 + m6 * m6 - 1152921504606846976) 11811160064
  c11 : nb (m1 * m1 + m4 * m4 + m7 * m7 - 1152921504606846976) 11811160064
  c22 : nb (m2 * m2 + m5 * m5 + m8 * m8 - 1152921504606846976) 11811160064
  c01 : nb (m0 * m1 + m3 * m4 + m6 * m7) 4294967296
  c02 : nb (m0 * m2 + m3 * m5 + m6 * m8) 4294967296
  c12 : nb (m1 * m2 + m4 * m5 + m7 * m8) 4294967296
  b0 : nb m0 1073741830
  b1 : nb m1 1073741830
  b2 : nb m2 1073741830
  b3 : nb m3 1073741830
  b4 : nb m4 1073741830
  b5 : nb m5 1073741830
  b6 : nb m6 1073741830
  b7 : nb m7 1073741830
  b8 : nb m8 1073741830
theorem col_cancel {x a b c A B C k : Int} (h : x = a + b + c) (ea : nb (1152921504606846976 * a - A) 1237940043700000000000000000) (eb : nb (1152921504606846976 * b - B) 1237940043700000000000000000) (ec : nb (1152921504606846976 * c - C) 1237940043700000000000000000) (hk : A + B + C = k) : nb (1152921504606846976 * x - k) 3713820131100000000000000000 := by
  subst h hk
  unfold nb at *; omega
theorem cols_ok {s0 s1 s2 s3 : Int} (h : UnitQ s0 s1 s2 s3) : Cols (rm0 s0 s1 s2 s3) (rm1 s0 s1 s2 s3) (rm2 s0 s1 s2 s3) (rm3 s0 s1 s2 s3) (rm4 s0 s1 s2 s3) (rm5 s0 s1 s2 s3) (rm6 s0 s1 s2 s3) (rm7 s0 s1 s2 s3) (rm8 s0 s1 s2 s3) := by
  obtain ⟨e0, e1, e2, e3, e4, e5, e6, e7, e8, -⟩ := rm_eq h.ha h.hb h.hc h.hd
  have hn := h.hn
  obtain ⟨l0, l1, l2, l3, l4, l5, l6, l7, l8⟩ := mx_le s0 s1 s2 s3
  rw [e0, e1, e2, e3, e4, e5, e6, e7, e8]
  have hN : nb (n4 s0 s1 s2 s3 - 1152921504606846976) 3758096384 := by unfold nearU at hn; unfold nb; omega
  have hN2 : n4 s0 s1 s2 s3 ≤ 1152921508365000000 := by unfold nb at hN; omega
  have i00 : mx0 s0 s1 s2 s3 * mx0 s0 s1 s2 s3 + mx3 s0 s1 s2 s3 * mx3 s0 s1 s2 s3 + mx6 s0 s1 s2 s3 * mx6 s0 s1 s2 s3 = n4 s0 s1 s2 s3 * n4 s0 s1 s2 s3 := by unfold mx0 mx3 mx6 n4; grind
  have i11 : mx1 s0 s1 s2 s3 * mx1 s0 s1 s2 s3 + mx4 s0 s1 s2 s3 * mx4 s0 s1 s2 s3 + mx7 s0 s1 s2 s3 * mx7 s0 s1 s2 s3 = n4 s0 s1 s2 s3 * n4 s0 s1 s2 s3 := by unfold mx1 mx4 mx7 n4; grind
  have i22 : mx2 s0 s1 s2 s3 * mx2 s0 s1 s2 s3 + mx5 s0 s1 s2 s3 * mx5 s0 s1 s2 s3 + mx8 s0 s1 s2 s3 * mx8 s0 s1 s2 s3 = n4 s0 s1 s2 s3 * n4 s0 s1 s2 s3 := by unfold mx2 mx5 mx8 n4; grind
  have i01 : mx0 s0 s1 s2 s3 * mx1 s0 s1 s2 s3 + mx3 s0 s1 s2 s3 * mx4 s0 s1 s2 s3 + mx6 s0 s1 s2 s3 * mx7 s0 s1 s2 s3 = 0 := by unfold mx0 mx1 mx3 mx4 mx6 mx7; grind
  have i02 : mx0 s0 s1 s2 s3 * mx2 s0 s1 s2 s3 + mx3 s0 s1 s2 s3 * mx5 s0 s1 s2 s3 + mx6 s0 s1 s2 s3 * mx8 s0 s1 s2 s3 = 0 := by unfold mx0 mx2 mx3 mx5 mx6 mx8; grind
  have i12 : mx1 s0 s1 s2 s3 * mx2 s0 s1 s2 s3 + mx4 s0 s1 s2 s3 * mx5 s0 s1 s2 s3 + mx7 s0 s1 s2 s3 * mx8 s0 s1 s2 s3 = 0 := by unfold mx1 mx2 mx4 mx5 mx7 mx8; grind
  have hNN : nb (n4 s0 s1 s2 s3 * n4 s0 s1 s2 s3 - 1152921504606846976 * 1152921504606846976) 8665600000000000000000000000 := by
    have p := hN.mul hN
    have e : n4 s0 s1 s2 s3 * n4 s0 s1 s2 s3 - 1152921504606846976 * 1152921504606846976 = (n4 s0 s1 s2 s3 - 1152921504606846976) * (n4 s0 s1 s2 s3 - 1152921504606846976) + 2305843009213693952 * (n4 s0 s1 s2 s3 - 1152921504606846976) := by grind
    rw [e]
    generalize (n4 s0 s1 s2 s3 - 1152921504606846976) * (n4 s0 s1 s2 s3 - 1152921504606846976) = X at *
    generalize n4 s0 s1 s2 s3 - 1152921504606846976 = Y at *
    unfold nb at *; omega
  generalize n4 s0 s1 s2 s3 * n4 s0 s1 s2 s3 = NN at *
  have r0 := rn30 (mx0 s0 s1 s2 s3)
  have r1 := rn30 (mx1 s0 s1 s2 s3)
  have r2 := rn30 (mx2 s0 s1 s2 s3)
  have r3 := rn30 (mx3 s0 s1 s2 s3)
  have r4 := rn30 (mx4 s0 s1 s2 s3)
  have r5 := rn30 (mx5 s0 s1 s2 s3)
  have r6 := rn30 (mx6 s0 s1 s2 s3)
  have r7 := rn30 (mx7 s0 s1 s2 s3)
  have r8 := rn30 (mx8 s0 s1 s2 s3)
  have L0 := l0.le hN2
  have L1 := l1.le hN2
  have L2 := l2.le hN2
  have L3 := l3.le hN2
  have L4 := l4.le hN2
  have L5 := l5.le hN2
  have L6 := l6.le hN2
  have L7 := l7.le hN2
  have L8 := l8.le hN2
  clear l0 l1 l2 l3 l4 l5 l6 l7 l8
  have bd : ∀ {m M : Int}, nb (2 * (m * 1073741824 - M)) 1073741824 → nb M 1152921508365000000 → nb m 1073741830 := by
    intro m M h1 h2; unfold nb at *; omega
  have dg : ∀ {x k : Int}, nb (1152921504606846976 * x - k) 3713820131100000000000000000 → nb (k - 1152921504606846976 * 1152921504606846976) 8665600000000000000000000000 → nb (x - 1152921504606846976) 11811160064 := by
    intro x k h1 h2; unfold nb at *; omega
  have og : ∀ {x : Int}, nb (1152921504606846976 * x - 0) 3713820131100000000000000000 → nb x 4294967296 := by
    intro x h1; unfold nb at *; omega
  exact ⟨dg (col_cancel rfl (ent r0 r0 L0 L0) (ent r3 r3 L3 L3) (ent r6 r6 L6 L6) i00) hNN, dg (col_cancel rfl (ent r1 r1 L1 L1) (ent r4 r4 L4 L4) (ent r7 r7 L7 L7) i11) hNN, dg (col_cancel rfl (ent r2 r2 L2 L2) (ent r5 r5 L5 L5) (ent r8 r8 L8 L8) i22) hNN,
    og (col_cancel rfl (ent r0 r1 L0 L1) (ent r3 r4 L3 L4) (ent r6 r7 L6 L7) i01), og (col_cancel rfl (ent r0 r2 L0 L2) (ent r3 r5 L3 L5) (ent r6 r8 L6 L8) i02), og (col_cancel rfl (ent r1 r2 L1 L2) (ent r4 r5 L4 L5) (ent r7 r8 L7 L8) i12),
    bd r0 L0, bd r1 L1, bd r2 L2, bd r3 L3, bd r4 L4, bd r5 L5, bd r6 L6, bd r7 L7, bd r8 L8⟩
/-- One number of a vector that is turned and turned back. -/
theorem back1 {a0 a1 a2 p0 p1 p2 q0 q1 q2 v0 v1 v2 w0 w1 w2 b : Int} (ha0 : nb a0 1073741830) (ha1 : nb a1 1073741830) (ha2 : nb a2 1073741830) (hv0 : nb v0 1099511627776) (hv1 : nb v1 1099511627776) (hv2 : nb v2 1099511627776)
    (cd : nb (a0 * a0 + a1 * a1 + a2 * a2 - 1152921504606846976) 11811160064) (cp : nb (a0 * p0 + a1 * p1 + a2 * p2) 4294967296) (cq : nb (a0 * q0 + a1 * q1 + a2 * q2) 4294967296)
    (hw0 : nb (2 * (w0 * 1073741824 - (a0 * v0 + p0 * v1 + q0 * v2))) 1073741824) (hw1 : nb (2 * (w1 * 1073741824 - (a1 * v0 + p1 * v1 + q1 * v2))) 1073741824) (hw2 : nb (2 * (w2 * 1073741824 - (a2 * v0 + p2 * v1 + q2 * v2))) 1073741824)
    (hb : nb (2 * (b * 1073741824 - (a0 * w0 + a1 * w1 + a2 * w2))) 1073741824) : nb (b - v0) 32768 := by
  have e : 2 * (1152921504606846976 * (b - v0)) = 1073741824 * (2 * (b * 1073741824 - (a0 * w0 + a1 * w1 + a2 * w2))) + a0 * (2 * (w0 * 1073741824 - (a0 * v0 + p0 * v1 + q0 * v2))) + a1 * (2 * (w1 * 1073741824 - (a1 * v0 + p1 * v1 + q1 * v2))) + a2 * (2 * (w2 * 1073741824 - (a2 * v0 + p2 * v1 + q2 * v2)))
      + 2 * ((a0 * a0 + a1 * a1 + a2 * a2 - 1152921504606846976) * v0) + 2 * ((a0 * p0 + a1 * p1 + a2 * p2) * v1) + 2 * ((a0 * q0 + a1 * q1 + a2 * q2) * v2) := by grind
  have t0 := ha0.mul hw0
  have t1 := ha1.mul hw1
  have t2 := ha2.mul hw2
  have t3 := cd.mul hv0
  have t4 := cp.mul hv1
  have t5 := cq.mul hv2
  unfold nb at *
  generalize a0 * (2 * (w0 * 1073741824 - (a0 * v0 + p0 * v1 + q0 * v2))) = A0 at *
  generalize a1 * (2 * (w1 * 1073741824 - (a1 * v0 + p1 * v1 + q1 * v2))) = A1 at *
  generalize a2 * (2 * (w2 * 1073741824 - (a2 * v0 + p2 * v1 + q2 * v2))) = A2 at *
  generalize (a0 * a0 + a1 * a1 + a2 * a2 - 1152921504606846976) * v0 = B0 at *
  generalize (a0 * p0 + a1 * p1 + a2 * p2) * v1 = B1 at *
  generalize (a0 * q0 + a1 * q1 + a2 * q2) * v2 = B2 at *
  generalize 2 * (b * 1073741824 - (a0 * w0 + a1 * w1 + a2 * w2)) = Z at *
  omega
/-- A turned vector keeps its length. -/
theorem norm_turn {m0 m1 m2 m3 m4 m5 m6 m7 m8 v0 v1 v2 w0 w1 w2 : Int} (hc : Cols m0 m1 m2 m3 m4 m5 m6 m7 m8) (hv0 : nb v0 1099511627776) (hv1 : nb v1 1099511627776) (hv2 : nb v2 1099511627776) (gw0 : nb w0 4398046511104) (gw1 : nb w1 4398046511104) (gw2 : nb w2 4398046511104)
    (hw0 : nb (2 * (w0 * 1073741824 - (m0 * v0 + m1 * v1 + m2 * v2))) 1073741824) (hw1 : nb (2 * (w1 * 1073741824 - (m3 * v0 + m4 * v1 + m5 * v2))) 1073741824) (hw2 : nb (2 * (w2 * 1073741824 - (m6 * v0 + m7 * v1 + m8 * v2))) 1073741824) :
    nb (1073741824 * (w0 * w0 + w1 * w1 + w2 * w2 - (v0 * v0 + v1 * v1 + v2 * v2))) (20 * (v0 * v0 + v1 * v1 + v2 * v2) + 1073741824 * (w0.natAbs + w1.natAbs + w2.natAbs) + 4294967296) := by
  have q0 := sqnn0 v0
  have q1 := sqnn0 v1
  have q2 := sqnn0 v2
  have am : ∀ a b : Int, nb (2 * (a * b)) (a * a + b * b) := by
    intro a b
    have h1 := sqnn0 (a - b)
    have h2 := sqnn0 (a + b)
    have e1 : (a - b) * (a - b) = a * a - 2 * (a * b) + b * b := by grind
    have e2 : (a + b) * (a + b) = a * a + 2 * (a * b) + b * b := by grind
    unfold nb; omega
  -- the form of the columns
  have f0 := hc.c00.mul (show nb (v0 * v0) (v0 * v0) by unfold nb; omega)
  have f1 := hc.c11.mul (show nb (v1 * v1) (v1 * v1) by unfold nb; omega)
  have f2 := hc.c22.mul (show nb (v2 * v2) (v2 * v2) by unfold nb; omega)
  have g01 := hc.c01.mul (am v0 v1)
  have g02 := hc.c02.mul (am v0 v2)
  have g12 := hc.c12.mul (am v1 v2)
  -- the roundings
  have sq : ∀ {w S : Int}, nb (2 * (w * 1073741824 - S)) 1073741824 → nb (1152921504606846976 * (w * w) - S * S) (1152921504606846976 * w.natAbs + 1152921504606846976) := by
    intro w S h
    have hw : nb w w.natAbs := by unfold nb; omega
    have p := hw.mul h
    have p2 := h.mul h
    have e : 4 * (1152921504606846976 * (w * w) - S * S) = 4294967296 * (w * (2 * (w * 1073741824 - S))) - 2 * (w * 1073741824 - S) * (2 * (w * 1073741824 - S)) := by grind
    generalize (w.natAbs : Int) = n at *
    have hn : 0 ≤ n := by unfold nb at hw; omega
    unfold nb at *
    generalize w * (2 * (w * 1073741824 - S)) = A at *
    generalize 2 * (w * 1073741824 - S) * (2 * (w * 1073741824 - S)) = B at *
    generalize 1152921504606846976 * (w * w) - S * S = X at *
    omega
  have s0 := sq hw0
  have s1 := sq hw1
  have s2 := sq hw2
  have e : (m0 * v0 + m1 * v1 + m2 * v2) * (m0 * v0 + m1 * v1 + m2 * v2) + (m3 * v0 + m4 * v1 + m5 * v2) * (m3 * v0 + m4 * v1 + m5 * v2) + (m6 * v0 + m7 * v1 + m8 * v2) * (m6 * v0 + m7 * v1 + m8 * v2)
      = 1152921504606846976 * (v0 * v0 + v1 * v1 + v2 * v2) + (m0 * m0 + m3 * m3 + m6 * m6 - 1152921504606846976) * (v0 * v0) + (m1 * m1 + m4 * m4 + m7 * m7 - 1152921504606846976) * (v1 * v1) + (m2 * m2 + m5 * m5 + m8 * m8 - 1152921504606846976) * (v2 * v2)
        + (m0 * m1 + m3 * m4 + m6 * m7) * (2 * (v0 * v1)) + (m0 * m2 + m3 * m5 + m6 * m8) * (2 * (v0 * v2)) + (m1 * m2 + m4 * m5 + m7 * m8) * (2 * (v1 * v2)) := by grind
  generalize (m0 * v0 + m1 * v1 + m2 * v2) * (m0 * v0 + m1 * v1 + m2 * v2) = S0 at *
  generalize (m3 * v0 + m4 * v1 + m5 * v2) * (m3 * v0 + m4 * v1 + m5 * v2) = S1 at *
  generalize (m6 * v0 + m7 * v1 + m8 * v2) * (m6 * v0 + m7 * v1 + m8 * v2) = S2 at *
  generalize (m0 * m0 + m3 * m3 + m6 * m6 - 1152921504606846976) * (v0 * v0) = F0 at *
  generalize (m1 * m1 + m4 * m4 + m7 * m7 - 1152921504606846976) * (v1 * v1) = F1 at *
  generalize (m2 * m2 + m5 * m5 + m8 * m8 - 1152921504606846976) * (v2 * v2) = F2 at *
  generalize (m0 * m1 + m3 * m4 + m6 * m7) * (2 * (v0 * v1)) = G01 at *
  generalize (m0 * m2 + m3 * m5 + m6 * m8) * (2 * (v0 * v2)) = G02 at *
  generalize (m1 * m2 + m4 * m5 + m7 * m8) * (2 * (v1 * v2)) = G12 at *
  generalize v0 * v0 = V0 at *
  generalize v1 * v1 = V1 at *
  generalize v2 * v2 = V2 at *
  generalize w0 * w0 = W0 at *
  generalize w1 * w1 = W1 at *
  generalize w2 * w2 = W2 at *
  clear hw0 hw1 hw2 hc sq am
  unfold nb at *
  generalize (w0.natAbs : Int) = N0 at *
  generalize (w1.natAbs : Int) = N1 at *
  generalize (w2.natAbs : Int) = N2 at *
  omega
/-- Lengths, off their squares. -/
theorem len_near {V W n m : Int} (n0 : 0 ≤ n) (m0 : 0 ≤ m) (n1 : n ≤ 2199023255552) (a1 : V ≤ n * n + n) (a2 : n = 0 ∨ n * n - n < V) (b1 : W ≤ m * m + m) (b2 : m = 0 ∨ m * m - m < W) (hV : 0 ≤ V) (hW : 0 ≤ W)
    (h : nb (1073741824 * (W - V)) (20 * V + 3221225472 * m + 4294967296)) : nb (m - n) 32768 := by
  have key : 20 * V ≤ 20 * (n * n) + 20 * n := by omega
  have nn : n * n ≤ 2199023255552 * n := Int.mul_le_mul_of_nonneg_right n1 n0
  unfold nb at *
  constructor
  · rcases Int.lt_or_le (m - n) (-32768) with g | g
    · exfalso
      -- n > m + 32768
      have h2 : n * n - n < V := by omega
      have e1 : n * n - m * m = (n - m) * (n + m) := by grind
      by_cases c : 9 * n ≤ 10 * m
      · have p : 32769 * (n + m) ≤ (n - m) * (n + m) := Int.mul_le_mul_of_nonneg_right (by omega) (by omega)
        omega
      · have p : (n - m) * n ≤ (n - m) * (n + m) := Int.mul_le_mul_of_nonneg_left (by omega) (by omega)
        have p2 : n * n ≤ 10 * ((n - m) * n) := by
          have : n * n ≤ (10 * (n - m)) * n := Int.mul_le_mul_of_nonneg_right (by omega) n0
          have e : (10 * (n - m)) * n = 10 * ((n - m) * n) := by grind
          omega
        have p3 : 32769 * n ≤ n * n := Int.mul_le_mul_of_nonneg_right (by omega) n0
        omega
    · exact g
  · rcases Int.lt_or_le 32768 (m - n) with g | g
    · exfalso
      have h2 : m * m - m < W := by omega
      have p : (n + 32769) * m ≤ m * m := Int.mul_le_mul_of_nonneg_right (by omega) m0
      have p2 : (n + 32769) * m = n * m + 32769 * m := by grind
      have p3 : n * (n + 32769) ≤ n * m := Int.mul_le_mul_of_nonneg_left (by omega) n0
      have p4 : n * (n + 32769) = n * n + 32769 * n := by grind
      omega
    · exact g
end Go.Proofs.Ytnabopepomjncaa

/- root.Recip: its run. -/
namespace Go.Proofs.Ytnabopepomjncaa
open Go.Lr
set_option linter.unusedVariables false
theorem xrecipR1 (a : Int) (hb : Bool) : (runF Try.prog S18 Zl 2000 70 [A0, .v (.one (.int .i64 a))] [(0, flag 26 hb)] 1 []).map acc3 = some (LV.v (V1.one (At.int IntKind.i64 (divPV 1073741824 a 30))), some { ty := 26, fr := (0, 0), es := 0, cells := [At.bool (hb || divPH 1073741824 a 30)] }, []) := by kernel_rfl
def xrecipT (a : Int) (hb : Bool) : Option (LV × Bool × List (Bool × Bool)) := some (LV.v (V1.one (At.int IntKind.i64 (divPV 1073741824 a 30))), (hb || divPH 1073741824 a 30), [])
def xrecipF : List LV → Bool → Option (LV × Bool × List (Bool × Bool))
  | [.v (.one (.int .i64 a))], hb => xrecipT a hb
  | _, _ => none
theorem sumxrecip : SumOK Try.prog 70 (accSum 26 xrecipF) := by
  refine accSum_run (z := Zl) sound18 (own_of sound18 Try.func70 (by kernel_rfl)) fun args hb v h' cs hF hc => ?_
  unfold xrecipF at hF
  split at hF
  · rename_i a
    unfold xrecipT at hF
    cases hF
    exact ⟨rfl, 2000, [], _, xrecipR1 a hb, ae_nil⟩
  · cases hF


def recipS : List LV → Bool → Option (LV × Bool × List (Bool × Bool))
  | [.v (.one (.int .i64 a))], hb => some (I (divPV 1073741824 a 30), hb || divPH 1073741824 a 30, [])
  | _, _ => none
theorem sumRecip : SumOK Try.prog 70 (accSum 26 recipS) := by
  refine sumxrecip.acc_re fun args hb v h' cs hF hc => ?_
  unfold recipS at hF
  split at hF
  · rename_i a
    cases hF
    exact ⟨[], rfl, ae_nil⟩
  · cases hF
def S19 : FuncId → Option SumK := more S18 70 (accSum 26 recipS)
theorem sound19 : Sound Try.prog S19 := sound18.more sumRecip
end Go.Proofs.Ytnabopepomjncaa

/- What the laws of scalars and roots say of the operations: plain. -/
namespace Go.Proofs.Ytnabopepomjncaa
open Go.Lr
set_option linter.unusedVariables false

theorem rnd_shift (t : Int) (n m : Nat) : rndV (t * pow2 n) (n + m) = rndV t m := by
  have hp := pow2_pos n
  have key : ∀ x : Int, 0 ≤ x → (x * pow2 n + halfP (n + m)) / pow2 (n + m) = (x + halfP m) / pow2 m := by
    intro x hx
    cases m with
    | zero =>
      have h1 : halfP n < pow2 n := by rcases (halfP_two n).2 with ⟨rfl, h, h'⟩ | h <;> omega
      have h2 := (halfP_le n).1
      show (x * pow2 n + halfP n) / pow2 n = (x + 0) / 1
      rw [Int.add_comm, Int.add_mul_ediv_right _ _ (by omega), Int.ediv_eq_zero_of_lt h2 h1]
      omega
    | succ m =>
      have e1 : halfP (n + (m + 1)) = pow2 n * pow2 m := pow2_add n m
      have e2 : x * pow2 n + pow2 n * pow2 m = pow2 n * (x + pow2 m) := by grind
      rw [e1, e2, pow2_add]
      exact Int.mul_ediv_mul_of_pos _ _ hp
  by_cases h : 0 ≤ t
  · rw [rnd_pos (Int.mul_nonneg h (by omega)), rnd_pos h, key t h]
  · have : t * pow2 n ≤ 0 := by have := Int.mul_neg_of_neg_of_pos (show t < 0 by omega) hp; omega
    rw [rnd_neg this, rnd_neg (by omega), ← Int.neg_mul, key (-t) (by omega)]
theorem rnd_abs (t : Int) (s : Nat) : absV (rndV t s) ≤ absV t := by
  have hp := pow2_pos s
  have h1 : halfP s < pow2 s := by rcases (halfP_two s).2 with ⟨rfl, h, h'⟩ | h <;> omega
  have h2 := (halfP_le s).1
  have key : ∀ x : Int, 0 ≤ x → 0 ≤ (x + halfP s) / pow2 s ∧ (x + halfP s) / pow2 s ≤ x := by
    intro x hx
    refine ⟨Int.ediv_nonneg (by omega) (by omega), ?_⟩
    have h3 : x * 1 ≤ x * pow2 s := Int.mul_le_mul_of_nonneg_left (by omega) hx
    have h4 : (x + halfP s) / pow2 s < x + 1 := Int.ediv_lt_of_lt_mul hp (by have e : (x + 1) * pow2 s = x * pow2 s + pow2 s := by grind
                                                                             omega)
    omega
  by_cases h : 0 ≤ t
  · rw [rnd_pos h, absV_pos h]
    have := key t h
    rw [absV_pos this.1]; exact this.2
  · rw [rnd_neg (by omega), absV_neg (a := t) (by omega)]
    have := key (-t) (by omega)
    rw [absV_negate, absV_pos this.1]; exact this.2
theorem rnd_in {t : Int} (s : Nat) (h0 : -1152921504606846976 ≤ t) (h1 : t ≤ 1152921504606846976) : -1152921504606846976 ≤ rndV t s ∧ rndV t s ≤ 1152921504606846976 := by
  have h := rnd_abs t s
  unfold absV at h
  split at h <;> split at h <;> omega

theorem mul_comm' (a b s : Int) : mulV a b s = mulV b a s := by unfold mulV; rw [Int.mul_comm]
theorem md_comm (a b d : Int) : mulDivV a b d = mulDivV b a d := by unfold mulDivV; rw [Int.mul_comm]
theorem sub_anti (a b : Int) : subV a b = -subV b a := by
  unfold subV
  rw [← sat_odd]; congr 1; omega
theorem mul_mono {a b d s : Int} (h : a ≤ b) (hd : 0 ≤ d) : mulV a d s ≤ mulV b d s := by
  unfold mulV rndS
  split
  · exact Int.le_refl _
  · split
    · exact Int.le_refl _
    · refine sat_mono (rnd_mono ?_ _)
      have h1 := sat_mono h
      have h2 : 0 ≤ satV d := by have := sat_mono hd; exact this
      exact Int.mul_le_mul_of_nonneg_right h1 h2
theorem or_f {a b : Bool} (h : (a || b) = false) : a = false ∧ b = false := by cases a <;> cases b <;> simp_all
theorem mul_ok {a b s : Int} (h : mulH a b s = false) : satV a = a ∧ satV b = b ∧ 0 ≤ s ∧ s ≤ 120 ∧ mulV a b s = rndV (a * b) s.toNat ∧ -1152921504606846976 ≤ rndV (a * b) s.toNat ∧ rndV (a * b) s.toNat ≤ 1152921504606846976 := by
  unfold mulH rndH at h
  obtain ⟨h1, h⟩ := or_f h
  obtain ⟨h2, h⟩ := or_f h
  obtain ⟨h3, h⟩ := or_f h
  obtain ⟨h4, h5⟩ := or_f h
  have a1 := satH_iff.1 h1
  have a2 := satH_iff.1 h2
  have e1 := sat_in a1.1 a1.2
  have e2 := sat_in a2.1 a2.2
  rw [e1, e2] at h5
  have a5 := satH_iff.1 h5
  simp only [decide_eq_false_iff_not] at h3 h4
  refine ⟨e1, e2, by omega, by omega, ?_, a5⟩
  unfold mulV rndS
  rw [e1, e2, if_neg h3, if_neg h4, sat_in a5.1 a5.2]
theorem div_undo {a : Int} (h : mulH a 1048576 0 = false) : divPV (mulV a 1048576 0) 1048576 0 = a := by
  have ha : satH a = false := (or_f h).1
  obtain ⟨e1, -, -, -, e2, b1, b2⟩ := mul_ok h
  rw [rnd0] at e2 b1 b2
  rw [e2]
  unfold divPV byV
  rw [if_neg (by decide), if_neg (by decide), sat_in b1 b2, show satV 1048576 = 1048576 by decide, if_neg (by decide), show pow2 (Int.toNat 0) = 1 from rfl, Int.mul_one, div_exact _ _ (by decide)]
  exact e1

/-- FxHalves -/
theorem half_mul {t : Int} (h0 : -1152921504606846976 ≤ t) (h1 : t ≤ 1152921504606846976) (n m : Nat) (hn : n + m = 30) (hs : satV (pow2 n) = pow2 n) :
    mulV t (pow2 n) 30 = rndV t m ∧ mulH t (pow2 n) 30 = false := by
  have e := rnd_shift t n m
  rw [hn] at e
  have b := rnd_in m h0 h1
  have hs2 : satH (pow2 n) = false := by
    have b2 := sat_bd (pow2 n)
    rw [hs] at b2
    exact satH_in b2.1 b2.2
  refine ⟨?_, ?_⟩
  · unfold mulV rndS
    rw [if_neg (by decide), if_neg (by decide), sat_in h0 h1, hs, show Int.toNat 30 = 30 from rfl, e, sat_in b.1 b.2]
  · unfold mulH rndH
    rw [sat_in h0 h1, hs, show Int.toNat 30 = 30 from rfl, e, satH_in b.1 b.2, satH_in h0 h1, hs2]
    decide
theorem half_one {t : Int} (h0 : -1152921504606846976 ≤ t) (h1 : t ≤ 1152921504606846976) (k : Int) (k0 : 0 ≤ k) (k1 : k ≤ 120) :
    mulV t 1 k = rndV t k.toNat ∧ mulH t 1 k = false := by
  have b := rnd_in k.toNat h0 h1
  have e1 : satV 1 = 1 := by decide
  refine ⟨?_, ?_⟩
  · unfold mulV rndS
    rw [if_neg (by omega), if_neg (by omega), sat_in h0 h1, e1, Int.mul_one, sat_in b.1 b.2]
  · unfold mulH rndH
    rw [sat_in h0 h1, e1, Int.mul_one, satH_in b.1 b.2, satH_in h0 h1, decide_eq_false (show ¬ k < 0 by omega), decide_eq_false (show ¬ k > 120 by omega)]
    decide
theorem half_self {t : Int} (h0 : -1152921504606846976 ≤ t) (h1 : t ≤ 1152921504606846976) (hne : t ≠ 0) : divPV t t 30 = 1073741824 ∧ divPH t t 30 = false := by
  have e := div_exact (pow2 30) t hne
  rw [Int.mul_comm, show pow2 30 = 1073741824 from rfl] at e
  have hf : (t == 0) = false := by simpa using hne
  refine ⟨?_, ?_⟩
  · unfold divPV byV
    rw [if_neg (by decide), if_neg (by decide), sat_in h0 h1, if_neg hne, show pow2 (Int.toNat 30) = 1073741824 from rfl, e]
    decide
  · unfold divPH byH
    rw [sat_in h0 h1, satH_in h0 h1, show pow2 (Int.toNat 30) = 1073741824 from rfl, e, hf]
    decide
theorem half_seven {t : Int} (h0 : -1152921504606846976 ≤ t) (h1 : t ≤ 1152921504606846976) : mulDivV t 7 7 = t ∧ mulDivH t 7 7 = false := by
  have e1 : satV 7 = 7 := by decide
  have e := div_exact t 7 (by decide)
  refine ⟨?_, ?_⟩
  · unfold mulDivV byV
    rw [sat_in h0 h1, e1, if_neg (by decide), e, sat_in h0 h1]
  · unfold mulDivH byH
    rw [sat_in h0 h1, e1, satH_in h0 h1, e, satH_in h0 h1]
    decide

/-- RootRises -/
theorem sqrt_mono {a b : Int} (h0 : 0 ≤ a) (h : a ≤ b) : sqrtV a ≤ sqrtV b := by
  have h1 := sat_mono h0
  have h2 := sat_mono h
  have h3 := sat_bd a
  have h4 := sat_bd b
  have h1' : 0 ≤ satV a := h1
  unfold sqrtV
  rw [if_neg (by omega), if_neg (by omega)]
  exact sat_mono (root_mono (by omega) (by omega) (by omega))
theorem recip_in {a : Int} (h0 : 1048576 ≤ a) (h1 : a ≤ 1099511627776) :
    divPV 1073741824 a 30 = quoR 1152921504606846976 a ∧ divPH 1073741824 a 30 = false ∧ 1048576 ≤ quoR 1152921504606846976 a ∧ quoR 1152921504606846976 a ≤ 1099511627776 ∧
    -a ≤ 2 * (quoR 1152921504606846976 a * a - 1152921504606846976) ∧ 2 * (quoR 1152921504606846976 a * a - 1152921504606846976) ≤ a := by
  have hb := quo_bd (a := 1152921504606846976) (b := a) (by decide) (by omega)
  have hd := div_pos (a := 1152921504606846976) (b := a) (by decide) (by omega)
  generalize quoR 1152921504606846976 a = q at *
  have q0 : 1048576 ≤ q := by
    rcases Int.lt_or_le q 1048576 with h | h
    · exfalso
      have : q * a ≤ 1048575 * a := Int.mul_le_mul_of_nonneg_right (by omega) (by omega)
      omega
    · exact h
  have q1 : q ≤ 1099511627776 := by
    rcases Int.lt_or_le 1099511627776 q with h | h
    · exfalso
      have : 1099511627777 * a ≤ q * a := Int.mul_le_mul_of_nonneg_right (by omega) (by omega)
      omega
    · exact h
  have e1 : satV 1073741824 = 1073741824 := by decide
  have e2 : satV a = a := sat_in (by omega) (by omega)
  have e3 : (1073741824 : Int) * pow2 (Int.toNat 30) = 1152921504606846976 := by decide
  have e4 : satV q = q := sat_in (by omega) (by omega)
  refine ⟨?_, ?_, q0, q1, hb⟩
  · unfold divPV byV
    rw [if_neg (by decide), if_neg (by decide), e1, e2, e3, if_neg (by omega), hd, e4]
  · unfold divPH byH
    have hne : (a == 0) = false := by simp; omega
    rw [e1, e2, e3, hd, satH_in (a := a) (by omega) (by omega), satH_in (a := q) (by omega) (by omega), hne]
    decide
theorem recip_recip {a : Int} (h0 : 1048576 ≤ a) (h1 : a ≤ 1099511627776) :
    -1048576 ≤ divPV 1073741824 (divPV 1073741824 a 30) 30 - a ∧ divPV 1073741824 (divPV 1073741824 a 30) 30 - a ≤ 1048576 ∧ divPH 1073741824 a 30 = false ∧ divPH 1073741824 (divPV 1073741824 a 30) 30 = false ∧
    -1073741824 ≤ divPV 1073741824 (divPV 1073741824 a 30) 30 ∧ divPV 1073741824 (divPV 1073741824 a 30) 30 ≤ 1099511627776 := by
  obtain ⟨e1, f1, a0, a1, b0, b1⟩ := recip_in h0 h1
  rw [e1]
  generalize quoR 1152921504606846976 a = R at *
  obtain ⟨e2, f2, c0, c1, d0, d1⟩ := recip_in a0 a1
  rw [e2]
  generalize quoR 1152921504606846976 R = T at *
  refine ⟨?_, ?_, f1, f2, by omega, c1⟩
  · rcases Int.lt_or_le (T - a) (-1048576) with h | h
    · exfalso
      have h5 : (T - a) * R ≤ (-1048577) * R := Int.mul_le_mul_of_nonneg_right (by omega) (by omega)
      have h6 : (T - a) * R = T * R - R * a := by grind
      omega
    · exact h
  · rcases Int.lt_or_le 1048576 (T - a) with h | h
    · exfalso
      have h5 : 1048577 * R ≤ (T - a) * R := Int.mul_le_mul_of_nonneg_right (by omega) (by omega)
      have h6 : (T - a) * R = T * R - R * a := by grind
      omega
    · exact h

/-- RootHolds -/
theorem sq_root {a : Int} (h0 : 0 ≤ a) (h1 : a ≤ 35184372088832) : -32768 ≤ sqrtV (mulV a a 30) - a ∧ sqrtV (mulV a a 30) - a ≤ 32768 := by
  have hs : satV a = a := sat_in (by omega) (by omega)
  have hq0 : 0 ≤ a * a := Int.mul_nonneg h0 h0
  have hq1 : a * a ≤ 1237940039285380274899124224 := by
    have : a * a ≤ 35184372088832 * 35184372088832 := Int.mul_le_mul h1 h1 h0 (by decide)
    omega
  have hb := rnd_bd (a * a) 30
  rw [show pow2 30 = 1073741824 from rfl] at hb
  have hm : mulV a a 30 = satV (rndV (a * a) 30) := by
    unfold mulV rndS
    rw [if_neg (by decide), if_neg (by decide), hs]; rfl
  rw [hm]
  generalize rndV (a * a) 30 = m at *
  have m0 : 0 ≤ m := by omega
  have m1 : m ≤ 1152921504606846976 := by omega
  rw [sat_in (by omega) m1]
  unfold sqrtV
  rw [sat_in (by omega) m1, if_neg (by omega)]
  have n0 : 0 ≤ m * 1073741824 := by omega
  have n1 : m * 1073741824 < 340282366920938463463374607431768211456 := by omega
  have r1 : rootW (m * 1073741824) ≤ a + 32768 := by
    refine root_le n0 n1 (by omega) ?_
    have e : (a + 32768) * (a + 32768) + (a + 32768) = a * a + 65537 * a + 1073774592 := by grind
    omega
  have r2 : a - 32768 ≤ rootW (m * 1073741824) := by
    refine root_ge n0 n1 ?_
    by_cases h : a ≤ 32768
    · exact .inl (by omega)
    · right
      have e : (a - 32768) * (a - 32768) - (a - 32768) = a * a - 65537 * a + 1073774592 := by grind
      omega
  have r0 := (rootW_spec n0 n1).1
  rw [sat_in (by omega) (by omega)]
  omega
theorem sqS2 (x y : Int) : sqS (List.take 64 [x, y]) = satV x * satV x + satV y * satV y := by
  show satV x * satV x + (satV y * satV y + 0) = _
  omega
theorem hyp_swap (x y : Int) : hypV [y, x] = hypV [x, y] := by
  unfold hypV
  rw [sqS2, sqS2, Int.add_comm]
theorem hyp_neg (x y : Int) : hypV [-x, y] = hypV [x, y] := by
  unfold hypV
  rw [sqS2, sqS2, sat_odd]
  congr 2
  have : -satV x * -satV x = satV x * satV x := by grind
  omega
theorem fabs_sat {x : Int} (h0 : -1152921504606846976 ≤ x) (h1 : x ≤ 1152921504606846976) : fabsV x = absV x := by
  unfold fabsV absV; (repeat' split) <;> omega
theorem sq_nn (a : Int) : 0 ≤ a * a := by
  have h : 0 ≤ a ∨ a ≤ 0 := by omega
  rcases h with h | h
  · exact Int.mul_nonneg h h
  · exact Int.mul_nonneg_of_nonpos_of_nonpos h h
theorem absV_sq (a : Int) : absV a * absV a = a * a := by rw [← absV_mul, absV_pos (sq_nn a)]
theorem hyp_bd {x y : Int} (x0 : -1152921504606846976 ≤ x) (x1 : x ≤ 1152921504606846976) (y0 : -1152921504606846976 ≤ y) (y1 : y ≤ 1152921504606846976) :
    fabsV x ≤ hypV [x, y] ∧ fabsV y ≤ hypV [x, y] ∧ hypV [x, y] ≤ faddV [fabsV x, fabsV y] := by
  rw [fabs_sat x0 x1, fabs_sat y0 y1]
  unfold hypV faddV
  rw [sqS2, sat_in x0 x1, sat_in y0 y1]
  have ax : 0 ≤ absV x ∧ absV x ≤ 1152921504606846976 := by unfold absV; split <;> omega
  have ay : 0 ≤ absV y ∧ absV y ≤ 1152921504606846976 := by unfold absV; split <;> omega
  have es : sumS [absV x, absV y] = absV x + absV y := by
    simp only [sumS]
    rw [sat_in (a := absV x) (by omega) ax.2, sat_in (a := absV y) (by omega) ay.2]
    omega
  rw [es, ← absV_sq x, ← absV_sq y]
  generalize absV x = u at *
  generalize absV y = v at *
  obtain ⟨u0, u1⟩ := ax
  obtain ⟨v0, v1⟩ := ay
  have hu : 0 ≤ u * u := Int.mul_nonneg u0 u0
  have hv : 0 ≤ v * v := Int.mul_nonneg v0 v0
  have hu2 : u * u ≤ 1152921504606846976 * 1152921504606846976 := Int.mul_le_mul u1 u1 u0 (by decide)
  have hv2 : v * v ≤ 1152921504606846976 * 1152921504606846976 := Int.mul_le_mul v1 v1 v0 (by decide)
  have huv : 0 ≤ u * v := Int.mul_nonneg u0 v0
  have a1 : u ≤ rootW (u * u + v * v) := root_ge (by omega) (by omega) (by omega)
  have a2 : v ≤ rootW (u * u + v * v) := root_ge (by omega) (by omega) (by omega)
  have a3 : rootW (u * u + v * v) ≤ u + v := by
    refine root_le (by omega) (by omega) (by omega) ?_
    have e : (u + v) * (u + v) = u * u + v * v + 2 * (u * v) := by grind
    omega
  refine ⟨?_, ?_, sat_mono a3⟩
  · have := sat_mono a1; rwa [sat_in (by omega) u1] at this
  · have := sat_mono a2; rwa [sat_in (by omega) v1] at this
end Go.Proofs.Ytnabopepomjncaa

/- A level field turned twice: what MagTurns reckons, in plain numbers. -/
namespace Go.Proofs.Ytnabopepomjncaa
open Go.Lr Go.RowKit Go.Tg
set_option linter.unusedVariables false
set_option linter.unusedSimpArgs false

theorem mt_A {f0 f3 X Y L c s x y : Int} (hL : 75000000 ≤ L) (hX : nb X L) (hY : nb Y L) (hc : nb (2 * (c * 1073741824 - (f0 * f0 - f3 * f3))) 1073741824) (hs : nb (2 * (s * 1073741824 - 2 * (f0 * f3))) 1073741824) (hx : nb (2 * (x * 1073741824 - (c * X - s * Y))) 1073741824) (hy : nb (2 * (y * 1073741824 - (s * X + c * Y))) 1073741824) :
    nb (1152921504606846976 * x - ((f0 * f0 - f3 * f3) * X - 2 * (f0 * f3) * Y)) (9 * (1073741824 * L)) ∧ nb (1152921504606846976 * y - (2 * (f0 * f3) * X + (f0 * f0 - f3 * f3) * Y)) (9 * (1073741824 * L)) := by
  have e1 : 2 * (1152921504606846976 * x - ((f0 * f0 - f3 * f3) * X - 2 * (f0 * f3) * Y)) = 1073741824 * (2 * (x * 1073741824 - (c * X - s * Y))) + 2 * (c * 1073741824 - (f0 * f0 - f3 * f3)) * X - 2 * (s * 1073741824 - 2 * (f0 * f3)) * Y := by grind
  have e2 : 2 * (1152921504606846976 * y - (2 * (f0 * f3) * X + (f0 * f0 - f3 * f3) * Y)) = 1073741824 * (2 * (y * 1073741824 - (s * X + c * Y))) + 2 * (s * 1073741824 - 2 * (f0 * f3)) * X + 2 * (c * 1073741824 - (f0 * f0 - f3 * f3)) * Y := by grind
  have p1 := hc.mul hX
  have p2 := hs.mul hY
  have p3 := hs.mul hX
  have p4 := hc.mul hY
  generalize 2 * (c * 1073741824 - (f0 * f0 - f3 * f3)) * X = a1 at *
  generalize 2 * (s * 1073741824 - 2 * (f0 * f3)) * Y = a2 at *
  generalize 2 * (s * 1073741824 - 2 * (f0 * f3)) * X = a3 at *
  generalize 2 * (c * 1073741824 - (f0 * f0 - f3 * f3)) * Y = a4 at *
  generalize (f0 * f0 - f3 * f3) * X - 2 * (f0 * f3) * Y = m1 at *
  generalize 2 * (f0 * f3) * X + (f0 * f0 - f3 * f3) * Y = m2 at *
  generalize c * X - s * Y = m3 at *
  generalize s * X + c * Y = m4 at *
  clear hc hs
  unfold nb at *
  omega
theorem mt_E {g0 g3 f0 f3 q0 q3 r0 r3 : Int} (b0 : nb g0 1073741824) (b3 : nb g3 1073741824) (c0 : nb f0 1073741824) (c3 : nb f3 1073741824) (e0 : q0 = g0 * f0 - g3 * f3) (e3 : q3 = g0 * f3 + g3 * f0) (h0 : nb (2 * (r0 * 1073741824 - q0)) 1073741824) (h3 : nb (2 * (r3 * 1073741824 - q3)) 1073741824) :
    nb (1152921504606846976 * (r0 * r0 - r3 * r3) - ((g0 * g0 - g3 * g3) * (f0 * f0 - f3 * f3) - 2 * (g0 * g3) * (2 * (f0 * f3)))) 6189700196426901374495621120 ∧ nb (1152921504606846976 * (2 * (r0 * r3)) - (2 * (g0 * g3) * (f0 * f0 - f3 * f3) + (g0 * g0 - g3 * g3) * (2 * (f0 * f3)))) 6189700196426901374495621120 ∧
    nb (1152921504606846976 * (r0 * r0 + r3 * r3) - (g0 * g0 + g3 * g3) * (f0 * f0 + f3 * f3)) 6189700196426901374495621120 ∧ nb r0 2147483649 ∧ nb r3 2147483649 := by
  have i0 : q0 * q0 - q3 * q3 = (g0 * g0 - g3 * g3) * (f0 * f0 - f3 * f3) - 2 * (g0 * g3) * (2 * (f0 * f3)) := by subst e0 e3; grind
  have i3 : 2 * (q0 * q3) = 2 * (g0 * g3) * (f0 * f0 - f3 * f3) + (g0 * g0 - g3 * g3) * (2 * (f0 * f3)) := by subst e0 e3; grind
  have iN : q0 * q0 + q3 * q3 = (g0 * g0 + g3 * g3) * (f0 * f0 + f3 * f3) := by subst e0 e3; grind
  have n0 : nb q0 2305843009213693952 := by
    have p := (b0.mul c0).sub (b3.mul c3)
    rw [← e0] at p; exact p.le (by omega)
  have n3 : nb q3 2305843009213693952 := by
    have p := (b0.mul c3).add (b3.mul c0)
    rw [← e3] at p; exact p.le (by omega)
  rw [← i0, ← i3, ← iN]
  have j0 : 4 * (1152921504606846976 * (r0 * r0 - r3 * r3) - (q0 * q0 - q3 * q3)) = 4 * (2 * (r0 * 1073741824 - q0) * q0) - 4 * (2 * (r3 * 1073741824 - q3) * q3) + 2 * (r0 * 1073741824 - q0) * (2 * (r0 * 1073741824 - q0)) - 2 * (r3 * 1073741824 - q3) * (2 * (r3 * 1073741824 - q3)) := by grind
  have j3 : 4 * (1152921504606846976 * (2 * (r0 * r3)) - 2 * (q0 * q3)) = 4 * (2 * (r0 * 1073741824 - q0) * q3) + 4 * (2 * (r3 * 1073741824 - q3) * q0) + 2 * (2 * (r0 * 1073741824 - q0) * (2 * (r3 * 1073741824 - q3))) := by grind
  have jN : 4 * (1152921504606846976 * (r0 * r0 + r3 * r3) - (q0 * q0 + q3 * q3)) = 4 * (2 * (r0 * 1073741824 - q0) * q0) + 4 * (2 * (r3 * 1073741824 - q3) * q3) + 2 * (r0 * 1073741824 - q0) * (2 * (r0 * 1073741824 - q0)) + 2 * (r3 * 1073741824 - q3) * (2 * (r3 * 1073741824 - q3)) := by grind
  have p1 := h0.mul n0
  have p2 := h3.mul n3
  have p3 := h0.mul n3
  have p4 := h3.mul n0
  have p5 := h0.mul h0
  have p6 := h3.mul h3
  have p7 := h0.mul h3
  clear i0 i3 iN
  have k0 : nb r0 2147483649 := by unfold nb at *; omega
  have k3 : nb r3 2147483649 := by unfold nb at *; omega
  clear e0 e3 b0 b3 c0 c3
  refine ⟨?_, ?_, ?_, k0, k3⟩
  all_goals
    clear k0 k3
    generalize 2 * (r0 * 1073741824 - q0) * q0 = a1 at *
    generalize 2 * (r3 * 1073741824 - q3) * q3 = a2 at *
    generalize 2 * (r0 * 1073741824 - q0) * q3 = a3 at *
    generalize 2 * (r3 * 1073741824 - q3) * q0 = a4 at *
    generalize 2 * (r0 * 1073741824 - q0) * (2 * (r0 * 1073741824 - q0)) = a5 at *
    generalize 2 * (r3 * 1073741824 - q3) * (2 * (r3 * 1073741824 - q3)) = a6 at *
    generalize 2 * (r0 * 1073741824 - q0) * (2 * (r3 * 1073741824 - q3)) = a7 at *
    clear h0 h3 n0 n3
    generalize r0 * r0 - r3 * r3 = m1 at *
    generalize q0 * q0 - q3 * q3 = m2 at *
    generalize r0 * r3 = m3 at *
    generalize q0 * q3 = m4 at *
    generalize r0 * r0 + r3 * r3 = m5 at *
    generalize q0 * q0 + q3 * q3 = m6 at *
    unfold nb at *
    omega
theorem mt_B {G0 G3 M0 M3 R0 R3 X Y L x y : Int} (hL : 0 ≤ L) (g0 : nb G0 1152921508901814272) (g3 : nb G3 1152921508901814272) (hX : nb X L) (hY : nb Y L) (ea : nb (1152921504606846976 * x - (M0 * X - M3 * Y)) (9 * (1073741824 * L))) (eb : nb (1152921504606846976 * y - (M3 * X + M0 * Y)) (9 * (1073741824 * L)))
    (h0 : nb (1152921504606846976 * R0 - (G0 * M0 - G3 * M3)) 6189700196426901374495621120) (h3 : nb (1152921504606846976 * R3 - (G3 * M0 + G0 * M3)) 6189700196426901374495621120) :
    nb (R0 * X - R3 * Y - (G0 * x - G3 * y)) (29 * (1073741824 * L)) ∧ nb (R3 * X + R0 * Y - (G3 * x + G0 * y)) (29 * (1073741824 * L)) := by
  have e1 : 1152921504606846976 * (R0 * X - R3 * Y - (G0 * x - G3 * y)) = G3 * (1152921504606846976 * y - (M3 * X + M0 * Y)) - G0 * (1152921504606846976 * x - (M0 * X - M3 * Y)) + (1152921504606846976 * R0 - (G0 * M0 - G3 * M3)) * X - (1152921504606846976 * R3 - (G3 * M0 + G0 * M3)) * Y := by grind
  have e2 : 1152921504606846976 * (R3 * X + R0 * Y - (G3 * x + G0 * y)) = (1152921504606846976 * R3 - (G3 * M0 + G0 * M3)) * X + (1152921504606846976 * R0 - (G0 * M0 - G3 * M3)) * Y - G3 * (1152921504606846976 * x - (M0 * X - M3 * Y)) - G0 * (1152921504606846976 * y - (M3 * X + M0 * Y)) := by grind
  have p1 := g3.mul eb
  have p2 := g0.mul ea
  have p3 := h0.mul hX
  have p4 := h3.mul hY
  have p5 := h3.mul hX
  have p6 := h0.mul hY
  have p7 := g3.mul ea
  have p8 := g0.mul eb
  generalize G3 * (1152921504606846976 * y - (M3 * X + M0 * Y)) = a1 at *
  generalize G0 * (1152921504606846976 * x - (M0 * X - M3 * Y)) = a2 at *
  generalize (1152921504606846976 * R0 - (G0 * M0 - G3 * M3)) * X = a3 at *
  generalize (1152921504606846976 * R3 - (G3 * M0 + G0 * M3)) * Y = a4 at *
  generalize (1152921504606846976 * R3 - (G3 * M0 + G0 * M3)) * X = a5 at *
  generalize (1152921504606846976 * R0 - (G0 * M0 - G3 * M3)) * Y = a6 at *
  generalize G3 * (1152921504606846976 * x - (M0 * X - M3 * Y)) = a7 at *
  generalize G0 * (1152921504606846976 * y - (M3 * X + M0 * Y)) = a8 at *
  generalize R0 * X - R3 * Y - (G0 * x - G3 * y) = z1 at *
  generalize R3 * X + R0 * Y - (G3 * x + G0 * y) = z2 at *
  clear ea eb h0 h3 g0 g3 hX hY
  unfold nb at *
  omega
theorem mt_C {g0 g3 C S Ct St : Int} (b0 : nb g0 1073741824) (b3 : nb g3 1073741824) (hn : nb (g0 * g0 + g3 * g3 - 1152921504606846976) 4294967296) (oc : nb (C * C + S * S - 1152921504606846976) 30064771072) (s1 : nb (C * C - S * S - 1073741824 * Ct) 30064771072) (s2 : nb (S * C + C * S - 1073741824 * St) 30064771072) (hw : nb (g3 * C - g0 * S) 2684354560) (hv : 0 ≤ g0 * C + g3 * S) :
    nb (2 * (g0 * g3) * Ct - (g0 * g0 - g3 * g3) * St) 71481133285624512512 ∧ nb ((g0 * g0 - g3 * g3) * Ct + 2 * (g0 * g3) * St - 1237940039285380274899124224) 115292150460684697600 ∧ nb (g0 * g0 - g3 * g3) 1152921508901814272 ∧ nb (2 * (g0 * g3)) 1152921508901814272 := by
  have q1 := sqnn0 (g0 - g3)
  have q2 := sqnn0 (g0 + g3)
  have q3 := sqnn0 g0
  have q4 := sqnn0 g3
  have i1 : (g0 - g3) * (g0 - g3) = g0 * g0 + g3 * g3 - 2 * (g0 * g3) := by grind
  have i2 : (g0 + g3) * (g0 + g3) = g0 * g0 + g3 * g3 + 2 * (g0 * g3) := by grind
  have B0 : nb (g0 * g0 - g3 * g3) 1152921508901814272 := by unfold nb at *; omega
  have B3 : nb (2 * (g0 * g3)) 1152921508901814272 := by
    rw [i1] at q1; rw [i2] at q2
    generalize g0 * g3 = k at *
    unfold nb at *; omega
  clear q1 q2 i1 i2
  have j : (g0 * C + g3 * S) * (g0 * C + g3 * S) + (g3 * C - g0 * S) * (g3 * C - g0 * S) = (g0 * g0 + g3 * g3 - 1152921504606846976) * (C * C + S * S - 1152921504606846976) + 1152921504606846976 * (g0 * g0 + g3 * g3 - 1152921504606846976) + 1152921504606846976 * (C * C + S * S - 1152921504606846976) + 1329227995784915872903807060280344576 := by grind
  have k3 : 1073741824 * (2 * (g0 * g3) * Ct - (g0 * g0 - g3 * g3) * St) = 2 * ((g0 * C + g3 * S) * (g3 * C - g0 * S)) - 2 * (g0 * g3) * (C * C - S * S - 1073741824 * Ct) + (g0 * g0 - g3 * g3) * (S * C + C * S - 1073741824 * St) := by grind
  have k0 : 1073741824 * ((g0 * g0 - g3 * g3) * Ct + 2 * (g0 * g3) * St) = (g0 * C + g3 * S) * (g0 * C + g3 * S) - (g3 * C - g0 * S) * (g3 * C - g0 * S) - (g0 * g0 - g3 * g3) * (C * C - S * S - 1073741824 * Ct) - 2 * (g0 * g3) * (S * C + C * S - 1073741824 * St) := by grind
  have p1 := hn.mul oc
  have p2 := hw.mul hw
  have p3 := B3.mul s1
  have p4 := B0.mul s2
  have p5 := B0.mul s1
  have p6 := B3.mul s2
  generalize g0 * C + g3 * S = v at *
  generalize g3 * C - g0 * S = w at *
  generalize (g0 * g0 + g3 * g3 - 1152921504606846976) * (C * C + S * S - 1152921504606846976) = a1 at *
  generalize 2 * (g0 * g3) * (C * C - S * S - 1073741824 * Ct) = a2 at *
  generalize (g0 * g0 - g3 * g3) * (S * C + C * S - 1073741824 * St) = a3 at *
  generalize (g0 * g0 - g3 * g3) * (C * C - S * S - 1073741824 * Ct) = a4 at *
  generalize 2 * (g0 * g3) * (S * C + C * S - 1073741824 * St) = a5 at *
  generalize 2 * (g0 * g3) * Ct - (g0 * g0 - g3 * g3) * St = z1 at *
  generalize (g0 * g0 - g3 * g3) * Ct + 2 * (g0 * g3) * St = z2 at *
  clear s1 s2 b0 b3
  have vv : nb (v * v - 1329227995784915872903807060280344576) 42089961335702929346570223616 := by
    clear k3 k0 p3 p4 p5 p6 hv B0 B3 q3 q4 hw
    generalize v * v = vv at *
    generalize w * w = ww at *
    generalize g0 * g0 + g3 * g3 = n at *
    generalize C * C + S * S = o at *
    unfold nb at *; omega
  have v1 : v ≤ 1152921541114068992 := by
    refine sq_bound hv (by omega) ?_
    clear k3 k0 p3 p4 p5 p6 B0 B3 q3 q4 hw j p1 p2 hn oc
    generalize v * v = vv at *
    unfold nb at *; omega
  have vw := (show nb v 1152921541114068992 from ⟨by omega, v1⟩).mul hw
  clear hn oc j p1 q3 q4
  generalize v * v = vv at *
  generalize w * w = ww at *
  generalize v * w = vw at *
  refine ⟨?_, ?_, B0, B3⟩
  · clear B0 B3
    unfold nb at *; omega
  · clear B0 B3
    unfold nb at *; omega
theorem mt_D {P Q G0 G3 x y L L1 CA SA Ct St Cd Sd : Int} (hL : 75000000 ≤ L) (e1 : nb (P - (G0 * x - G3 * y)) (29 * (1073741824 * L))) (e2 : nb (Q - (G3 * x + G0 * y)) (29 * (1073741824 * L))) (k3 : nb (G3 * Ct - G0 * St) 71481133285624512512) (k0 : nb (G0 * Ct + G3 * St - 1237940039285380274899124224) 115292150460684697600) (g0 : nb G0 1152921508901814272) (g3 : nb G3 1152921508901814272)
    (hx : nb x L1) (hy : nb y L1) (h1 : 100 * L1 ≤ 142 * L) (h2 : 2 * L ≤ 3 * L1) (hd : nb (y * CA - x * SA) (81 * L1)) (hn : 699000000 * L1 ≤ x * CA + y * SA) (bC : nb CA 1073741824) (bS : nb SA 1073741824) (bCd : nb Cd 1073741824) (bSd : nb Sd 1073741824)
    (s1 : nb (CA * Ct - SA * St - 1073741824 * Cd) 30064771072) (s2 : nb (SA * Ct + CA * St - 1073741824 * Sd) 30064771072) :
    nb (Q * Cd - P * Sd) (611048397441628897280 * L) ∧ nb (P * Cd + Q * Sd) (6189700196426901374495621120 * L) ∧ 495176015714152109959649689 * L ≤ P * Cd + Q * Sd := by
  have hnn : nb (x * CA + y * SA) (2 * (1073741824 * L1)) := by
    have p := (hx.mul bC).add (hy.mul bS)
    exact p.le (by omega)
  have t1 : nb (CA * Ct - SA * St) 1152921534671618048 := by unfold nb at *; omega
  have t2 : nb (SA * Ct + CA * St) 1152921534671618048 := by unfold nb at *; omega
  have i1 : 1073741824 * (Q * Cd - P * Sd) = (G0 * Ct + G3 * St - 1237940039285380274899124224) * (y * CA - x * SA) + 1237940039285380274899124224 * (y * CA - x * SA) + (G3 * Ct - G0 * St) * (x * CA + y * SA) + (Q - (G3 * x + G0 * y)) * (CA * Ct - SA * St) - (P - (G0 * x - G3 * y)) * (SA * Ct + CA * St) - Q * (CA * Ct - SA * St - 1073741824 * Cd) + P * (SA * Ct + CA * St - 1073741824 * Sd) := by grind
  have i2 : 1073741824 * (P * Cd + Q * Sd) = (G0 * Ct + G3 * St - 1237940039285380274899124224) * (x * CA + y * SA) + 1237940039285380274899124224 * (x * CA + y * SA) - (G3 * Ct - G0 * St) * (y * CA - x * SA) + (P - (G0 * x - G3 * y)) * (CA * Ct - SA * St) + (Q - (G3 * x + G0 * y)) * (SA * Ct + CA * St) - P * (CA * Ct - SA * St - 1073741824 * Cd) - Q * (SA * Ct + CA * St - 1073741824 * Sd) := by grind
  have bP : nb P (3458764513820540928 * L) := by
    have p := (g0.mul hx).sub (g3.mul hy)
    generalize G0 * x - G3 * y = m at *
    clear hd hn s1 s2 k3 k0 hnn t1 t2 i1 i2 e2
    unfold nb at *; omega
  have bQ : nb Q (3458764513820540928 * L) := by
    have p := (g3.mul hx).add (g0.mul hy)
    generalize G3 * x + G0 * y = m at *
    clear hd hn s1 s2 k3 k0 hnn t1 t2 i1 i2 e1
    unfold nb at *; omega
  have p1 := k0.mul hd
  have p2 := k3.mul hnn
  have p3 := e2.mul t1
  have p4 := e1.mul t2
  have p5 := bQ.mul s1
  have p6 := bP.mul s2
  have r1 := k0.mul hnn
  have r2 := k3.mul hd
  have r3 := e1.mul t1
  have r4 := e2.mul t2
  have r5 := bP.mul s1
  have r6 := bQ.mul s2
  generalize (G0 * Ct + G3 * St - 1237940039285380274899124224) * (y * CA - x * SA) = a1 at *
  generalize (G3 * Ct - G0 * St) * (x * CA + y * SA) = a2 at *
  generalize (Q - (G3 * x + G0 * y)) * (CA * Ct - SA * St) = a3 at *
  generalize (P - (G0 * x - G3 * y)) * (SA * Ct + CA * St) = a4 at *
  generalize Q * (CA * Ct - SA * St - 1073741824 * Cd) = a5 at *
  generalize P * (SA * Ct + CA * St - 1073741824 * Sd) = a6 at *
  generalize (G0 * Ct + G3 * St - 1237940039285380274899124224) * (x * CA + y * SA) = b1 at *
  generalize (G3 * Ct - G0 * St) * (y * CA - x * SA) = b2 at *
  generalize (P - (G0 * x - G3 * y)) * (CA * Ct - SA * St) = b3 at *
  generalize (Q - (G3 * x + G0 * y)) * (SA * Ct + CA * St) = b4 at *
  generalize P * (CA * Ct - SA * St - 1073741824 * Cd) = b5 at *
  generalize Q * (SA * Ct + CA * St - 1073741824 * Sd) = b6 at *
  generalize y * CA - x * SA = D1 at *
  generalize x * CA + y * SA = N1 at *
  generalize Q * Cd - P * Sd = z1 at *
  generalize P * Cd + Q * Sd = z2 at *
  clear e1 e2 k3 k0 g0 g3 hx hy s1 s2 bC bS bCd bSd t1 t2 bP bQ
  refine ⟨?_, ?_, ?_⟩
  · clear i2 r1 r2 r3 r4 r5 r6
    unfold nb at *; omega
  · clear i1 p1 p2 p3 p4 p5 p6
    unfold nb at *; omega
  · clear i1 p1 p2 p3 p4 p5 p6
    unfold nb at *; omega
theorem mt_H {p0 p3 r0 r3 X Y L x y Cd Sd R0 R3 : Int} (hL : 75000000 ≤ L) (eR0 : R0 = r0 * r0 - r3 * r3) (eR3 : R3 = 2 * (r0 * r3)) (hp : nb (p0 * p0 + p3 * p3 - 1152921504606846976) 4294967296) (hr : nb (r0 * r0 + r3 * r3 - 1152921504606846976) 15032385536) (hw : nb (p3 * r0 - p0 * r3) 2684354560) (hv : 0 ≤ p0 * r0 + p3 * r3)
    (ea : nb (1152921504606846976 * x - ((p0 * p0 - p3 * p3) * X - 2 * (p0 * p3) * Y)) (9 * (1073741824 * L))) (eb : nb (1152921504606846976 * y - (2 * (p0 * p3) * X + (p0 * p0 - p3 * p3) * Y)) (9 * (1073741824 * L))) (bCd : nb Cd 1073741824) (bSd : nb Sd 1073741824)
    (d : nb ((R3 * X + R0 * Y) * Cd - (R0 * X - R3 * Y) * Sd) (611048397441628897280 * L)) (n : nb ((R0 * X - R3 * Y) * Cd + (R3 * X + R0 * Y) * Sd) (6189700196426901374495621120 * L)) (n1 : 495176015714152109959649689 * L ≤ (R0 * X - R3 * Y) * Cd + (R3 * X + R0 * Y) * Sd) :
    nb (y * Cd - x * Sd) (577 * L) ∧ 268435456 * L ≤ x * Cd + y * Sd := by
  have j : (p0 * r0 + p3 * r3) * (p0 * r0 + p3 * r3) + (p3 * r0 - p0 * r3) * (p3 * r0 - p0 * r3) = (p0 * p0 + p3 * p3 - 1152921504606846976) * (r0 * r0 + r3 * r3 - 1152921504606846976) + 1152921504606846976 * (p0 * p0 + p3 * p3 - 1152921504606846976) + 1152921504606846976 * (r0 * r0 + r3 * r3 - 1152921504606846976) + 1329227995784915872903807060280344576 := by grind
  have q0 : (r0 * r0 + r3 * r3) * (r0 * r0 + r3 * r3) * (p0 * p0 - p3 * p3) = ((p0 * r0 + p3 * r3) * (p0 * r0 + p3 * r3) - (p3 * r0 - p0 * r3) * (p3 * r0 - p0 * r3)) * R0 - 2 * ((p0 * r0 + p3 * r3) * (p3 * r0 - p0 * r3)) * R3 := by subst eR0 eR3; grind
  have q3 : (r0 * r0 + r3 * r3) * (r0 * r0 + r3 * r3) * (2 * (p0 * p3)) = ((p0 * r0 + p3 * r3) * (p0 * r0 + p3 * r3) - (p3 * r0 - p0 * r3) * (p3 * r0 - p0 * r3)) * R3 + 2 * ((p0 * r0 + p3 * r3) * (p3 * r0 - p0 * r3)) * R0 := by subst eR0 eR3; grind
  have m0 := hp.mul hr
  have m1 := hw.mul hw
  generalize p0 * r0 + p3 * r3 = v at *
  generalize p3 * r0 - p0 * r3 = w at *
  have vv : nb (v * v - 1329227995784915872903807060280344576) 24758800785707605497982484480 := by
    generalize (p0 * p0 + p3 * p3 - 1152921504606846976) * (r0 * r0 + r3 * r3 - 1152921504606846976) = a at *
    generalize p0 * p0 + p3 * p3 = np at *
    generalize r0 * r0 + r3 * r3 = nr at *
    generalize v * v = vv at *
    generalize w * w = ww at *
    clear ea eb d n n1 q0 q3 hv hw eR0 eR3
    unfold nb at *; omega
  have v1 : v ≤ 1152921526081683456 := by
    refine sq_bound hv (by omega) ?_
    generalize v * v = vv at *
    clear ea eb d n n1 q0 q3 hw eR0 eR3 j m0 m1 hp hr
    unfold nb at *; omega
  have vw := (show nb v 1152921526081683456 from ⟨by omega, v1⟩).mul hw
  have bV : nb (v * v - w * w - 1329227995784915872903807060280344576) 25996740824992985772881608704 := by
    generalize v * v = vv at *
    generalize w * w = ww at *
    clear ea eb d n n1 q0 q3 hw eR0 eR3 j m0 hp hr vw
    unfold nb at *; omega
  have bW : nb (2 * (v * w)) 6313494200355439401985533542 := by
    generalize v * w = k at *
    clear ea eb d n n1 q0 q3 hw eR0 eR3 j m0 hp hr bV vv m1
    unfold nb at *; omega
  clear vv vw v1 j m0 m1 hp eR0 eR3
  generalize v * v - w * w = V at *
  generalize 2 * (v * w) = W at *
  have iD : (r0 * r0 + r3 * r3) * (r0 * r0 + r3 * r3) * ((2 * (p0 * p3) * X + (p0 * p0 - p3 * p3) * Y) * Cd - ((p0 * p0 - p3 * p3) * X - 2 * (p0 * p3) * Y) * Sd) = (V - 1329227995784915872903807060280344576) * ((R3 * X + R0 * Y) * Cd - (R0 * X - R3 * Y) * Sd) + 1329227995784915872903807060280344576 * ((R3 * X + R0 * Y) * Cd - (R0 * X - R3 * Y) * Sd) + W * ((R0 * X - R3 * Y) * Cd + (R3 * X + R0 * Y) * Sd) := by
    generalize 2 * (p0 * p3) = P3 at *
    generalize p0 * p0 - p3 * p3 = P0 at *
    generalize (r0 * r0 + r3 * r3) * (r0 * r0 + r3 * r3) = nn at *
    have : nn * ((P3 * X + P0 * Y) * Cd - (P0 * X - P3 * Y) * Sd) = (nn * P3 * X + nn * P0 * Y) * Cd - (nn * P0 * X - nn * P3 * Y) * Sd := by grind
    rw [this, q0, q3]; grind
  have iN : (r0 * r0 + r3 * r3) * (r0 * r0 + r3 * r3) * (((p0 * p0 - p3 * p3) * X - 2 * (p0 * p3) * Y) * Cd + (2 * (p0 * p3) * X + (p0 * p0 - p3 * p3) * Y) * Sd) = (V - 1329227995784915872903807060280344576) * ((R0 * X - R3 * Y) * Cd + (R3 * X + R0 * Y) * Sd) + 1329227995784915872903807060280344576 * ((R0 * X - R3 * Y) * Cd + (R3 * X + R0 * Y) * Sd) - W * ((R3 * X + R0 * Y) * Cd - (R0 * X - R3 * Y) * Sd) := by
    generalize 2 * (p0 * p3) = P3 at *
    generalize p0 * p0 - p3 * p3 = P0 at *
    generalize (r0 * r0 + r3 * r3) * (r0 * r0 + r3 * r3) = nn at *
    have : nn * ((P0 * X - P3 * Y) * Cd + (P3 * X + P0 * Y) * Sd) = (nn * P0 * X - nn * P3 * Y) * Cd + (nn * P3 * X + nn * P0 * Y) * Sd := by grind
    rw [this, q0, q3]; grind
  clear q0 q3
  have nr0 : 1152921489574461440 ≤ r0 * r0 + r3 * r3 := by unfold nb at hr; omega
  have nr1 : r0 * r0 + r3 * r3 ≤ 1152921519639232512 := by unfold nb at hr; omega
  generalize r0 * r0 + r3 * r3 = nr at *
  have nn0 := Int.mul_le_mul nr0 nr0 (by omega) (by omega)
  have nn1 := Int.mul_le_mul nr1 nr1 (by omega) (by omega)
  have i3 : 1152921504606846976 * (y * Cd - x * Sd) = ((2 * (p0 * p3) * X + (p0 * p0 - p3 * p3) * Y) * Cd - ((p0 * p0 - p3 * p3) * X - 2 * (p0 * p3) * Y) * Sd) + (1152921504606846976 * y - (2 * (p0 * p3) * X + (p0 * p0 - p3 * p3) * Y)) * Cd - (1152921504606846976 * x - ((p0 * p0 - p3 * p3) * X - 2 * (p0 * p3) * Y)) * Sd := by grind
  have i4 : 1152921504606846976 * (x * Cd + y * Sd) = (((p0 * p0 - p3 * p3) * X - 2 * (p0 * p3) * Y) * Cd + (2 * (p0 * p3) * X + (p0 * p0 - p3 * p3) * Y) * Sd) + (1152921504606846976 * y - (2 * (p0 * p3) * X + (p0 * p0 - p3 * p3) * Y)) * Sd + (1152921504606846976 * x - ((p0 * p0 - p3 * p3) * X - 2 * (p0 * p3) * Y)) * Cd := by grind
  have t1 := eb.mul bCd
  have t2 := ea.mul bSd
  have t3 := eb.mul bSd
  have t4 := ea.mul bCd
  generalize (1152921504606846976 * y - (2 * (p0 * p3) * X + (p0 * p0 - p3 * p3) * Y)) * Cd = a1 at *
  generalize (1152921504606846976 * x - ((p0 * p0 - p3 * p3) * X - 2 * (p0 * p3) * Y)) * Sd = a2 at *
  generalize (1152921504606846976 * y - (2 * (p0 * p3) * X + (p0 * p0 - p3 * p3) * Y)) * Sd = a3 at *
  generalize (1152921504606846976 * x - ((p0 * p0 - p3 * p3) * X - 2 * (p0 * p3) * Y)) * Cd = a4 at *
  clear ea eb bCd bSd hr hw hv
  generalize (2 * (p0 * p3) * X + (p0 * p0 - p3 * p3) * Y) * Cd - ((p0 * p0 - p3 * p3) * X - 2 * (p0 * p3) * Y) * Sd = Z at *
  generalize ((p0 * p0 - p3 * p3) * X - 2 * (p0 * p3) * Y) * Cd + (2 * (p0 * p3) * X + (p0 * p0 - p3 * p3) * Y) * Sd = Z' at *
  have u1 := bV.mul d
  have u2 := bW.mul n
  have u3 := bV.mul n
  have u4 := bW.mul d
  generalize (R3 * X + R0 * Y) * Cd - (R0 * X - R3 * Y) * Sd = dd at *
  generalize (R0 * X - R3 * Y) * Cd + (R3 * X + R0 * Y) * Sd = ne at *
  generalize (V - 1329227995784915872903807060280344576) * dd = c1 at *
  generalize W * ne = c2 at *
  generalize (V - 1329227995784915872903807060280344576) * ne = c3 at *
  generalize W * dd = c4 at *
  generalize y * Cd - x * Sd = z1 at *
  generalize x * Cd + y * Sd = z2 at *
  clear bV bW nr0 nr1
  generalize nr * nr = nn at *
  have b1 : nb Z (643330199570620612608 * L) := by
    refine nb.cancel (m := nn) (by omega) ?_
    have g := Int.mul_le_mul_of_nonneg_right nn0 (show 0 ≤ 643330199570620612608 * L by omega)
    generalize nn * (643330199570620612608 * L) = h at *
    generalize nn * Z = nz at *
    clear iN i3 i4 t1 t2 t3 t4 u3 u4 nn1 nn0 n1
    unfold nb at *; omega
  have b2 : 371382011785614082469737267 * L ≤ Z' := by
    rcases Int.lt_or_le Z' (371382011785614082469737267 * L) with g | g
    · exfalso
      have g1 := Int.mul_le_mul_of_nonneg_left (show Z' ≤ 371382011785614082469737267 * L by omega) (show 0 ≤ nn by omega)
      have g2 := Int.mul_le_mul_of_nonneg_right nn1 (show 0 ≤ 371382011785614082469737267 * L by omega)
      generalize nn * (371382011785614082469737267 * L) = h at *
      generalize nn * Z' = nz at *
      clear iD i3 i4 t1 t2 t3 t4 u1 u2 nn0 b1 nn1
      unfold nb at *; omega
    · exact g
  clear iD iN nn0 nn1 u1 u2 u3 u4 d n n1
  constructor
  · clear i4 t3 t4 b2
    unfold nb at *; omega
  · clear i3 t1 t2 b1
    unfold nb at *; omega
theorem nb_sq {D A : Int} (hA : 0 ≤ A) (h : D * D ≤ A * A) : nb D A := by
  constructor
  · rcases Int.le_total 0 D with k | k
    · omega
    · have := sq_bound (D := -D) (A := A) (by omega) hA (by rw [Int.neg_mul_neg]; omega)
      omega
  · rcases Int.le_total 0 D with k | k
    · exact sq_bound k hA h
    · omega
theorem mt_F {x y C2 S2 Cd Sd L L2 s c : Int} (hL : 75000000 ≤ L) (h20 : 0 ≤ L2) (d2 : nb (y * C2 - x * S2) (81 * L2)) (n2 : 699000000 * L2 ≤ x * C2 + y * S2) (d : nb (y * Cd - x * Sd) (577 * L)) (n : 268435456 * L ≤ x * Cd + y * Sd)
    (o2 : nb (C2 * C2 + S2 * S2 - 1152921504606846976) 30064771072) (od : nb (Cd * Cd + Sd * Sd - 1152921504606846976) 30064771072) (hm : L2 * L2 ≤ x * x + y * y) (hl : 99 * (L * L) ≤ 100 * (x * x + y * y)) (ds : nb (Sd * C2 - Cd * S2 - 1073741824 * s) 30064771072) (dc : nb (Cd * C2 + Sd * S2 - 1073741824 * c) 30064771072) :
    nb s 700 ∧ 1000 ≤ c := by
  have l1 := Int.mul_le_mul hL hL (by omega) (by omega)
  have hn : 1 ≤ x * x + y * y := by
    generalize L * L = ll at *
    generalize x * x + y * y = nn at *
    clear d2 n2 d n o2 od hm ds dc
    omega
  have i1 : (x * x + y * y) * (Sd * C2 - Cd * S2) = (y * C2 - x * S2) * (x * Cd + y * Sd) - (y * Cd - x * Sd) * (x * C2 + y * S2) := by grind
  have i2 : (x * x + y * y) * (Cd * C2 + Sd * S2) = (x * C2 + y * S2) * (x * Cd + y * Sd) + (y * C2 - x * S2) * (y * Cd - x * Sd) := by grind
  have j1 : (x * Cd + y * Sd) * (x * Cd + y * Sd) + (y * Cd - x * Sd) * (y * Cd - x * Sd) = (x * x + y * y) * (Cd * Cd + Sd * Sd) := by grind
  have j2 : (x * C2 + y * S2) * (x * C2 + y * S2) + (y * C2 - x * S2) * (y * C2 - x * S2) = (x * x + y * y) * (C2 * C2 + S2 * S2) := by grind
  have j3 : (Cd * C2 + Sd * S2) * (Cd * C2 + Sd * S2) + (Sd * C2 - Cd * S2) * (Sd * C2 - Cd * S2) = (Cd * Cd + Sd * Sd) * (C2 * C2 + S2 * S2) := by grind
  have w1 : Cd * Cd + Sd * Sd ≤ 1152921536819101921 := by unfold nb at od; omega
  have w2 : C2 * C2 + S2 * S2 ≤ 1152921536819101921 := by unfold nb at o2; omega
  have w3 : 1152921474542075904 ≤ Cd * Cd + Sd * Sd := by unfold nb at od; omega
  have w4 : 1152921474542075904 ≤ C2 * C2 + S2 * S2 := by unfold nb at o2; omega
  have w5 := Int.mul_le_mul w3 w4 (by omega) (by omega)
  generalize Cd * Cd + Sd * Sd = od' at *
  generalize C2 * C2 + S2 * S2 = o2' at *
  generalize Sd * C2 - Cd * S2 = T1 at *
  generalize Cd * C2 + Sd * S2 = T2 at *
  generalize y * C2 - x * S2 = D2 at *
  generalize x * C2 + y * S2 = N2 at *
  generalize y * Cd - x * Sd = D at *
  generalize x * Cd + y * Sd = N at *
  generalize x * x + y * y = nn at *
  have s1 := Int.mul_le_mul_of_nonneg_left w1 (show 0 ≤ nn by omega)
  have s2 := Int.mul_le_mul_of_nonneg_left w2 (show 0 ≤ nn by omega)
  have qD := sqnn0 D
  have qD2 := sqnn0 D2
  have a1 : D2 * D2 ≤ 6561 * nn := by
    have p := d2.mul d2
    have e : 81 * L2 * (81 * L2) = 6561 * (L2 * L2) := by grind
    rw [e] at p
    generalize L2 * L2 = k at *
    generalize D2 * D2 = k2 at *
    clear i1 i2 j1 j2 j3 s1 s2 d n d2 n2 ds dc l1 hl
    unfold nb at p; omega
  have a2 : D * D ≤ 336400 * nn := by
    have p := d.mul d
    have e : 577 * L * (577 * L) = 332929 * (L * L) := by grind
    rw [e] at p
    generalize L * L = k at *
    generalize D * D = k2 at *
    clear i1 i2 j1 j2 j3 s1 s2 d n d2 n2 ds dc l1 hm
    unfold nb at p; omega
  have b1 : N * N ≤ nn * 1152921536819101921 := by
    clear a1 a2 i1 i2 j2 j3 s2
    generalize nn * od' = k at *
    generalize N * N = k2 at *
    generalize D * D = k3 at *
    clear d n d2 n2 ds dc l1 hl hm
    omega
  have b2 : N2 * N2 ≤ nn * 1152921536819101921 := by
    clear a1 a2 i1 i2 j1 j3 s1 b1
    generalize nn * o2' = k at *
    generalize N2 * N2 = k2 at *
    generalize D2 * D2 = k3 at *
    clear d n d2 n2 ds dc l1 hl hm
    omega
  have nn0 : 0 ≤ nn := by omega
  have c1 : nb (D2 * N) (81 * (nn * 1073741839)) := by
    refine nb_sq (by omega) ?_
    have e1 : D2 * N * (D2 * N) = D2 * D2 * (N * N) := by grind
    have e2 : 81 * (nn * 1073741839) * (81 * (nn * 1073741839)) = 6561 * nn * (nn * 1152921536819101921) := by grind
    rw [e1, e2]
    exact Int.mul_le_mul a1 b1 (sqnn0 _) (by omega)
  have c2 : nb (D * N2) (580 * (nn * 1073741839)) := by
    refine nb_sq (by omega) ?_
    have e1 : D * N2 * (D * N2) = D * D * (N2 * N2) := by grind
    have e2 : 580 * (nn * 1073741839) * (580 * (nn * 1073741839)) = 336400 * nn * (nn * 1152921536819101921) := by grind
    rw [e1, e2]
    exact Int.mul_le_mul a2 b2 (sqnn0 _) (by omega)
  have t1 : nb T1 709743355579 := by
    refine nb.cancel (m := nn) (by omega) ?_
    rw [i1]
    generalize D2 * N = k at *
    generalize D * N2 = k2 at *
    clear a1 a2 b1 b2 s1 s2 i2 j1 j2 j3 qD qD2 d n d2 n2 ds dc l1 hl hm
    unfold nb at *; omega
  refine ⟨by clear a1 a2 b1 b2 c1 c2 s1 s2 i1 i2 j1 j2 j3 qD qD2 d n d2 n2 dc l1 hl hm; unfold nb at *; omega, ?_⟩
  have t2 : 0 ≤ T2 := by
    rcases Int.lt_or_le T2 0 with g | g
    · exfalso
      have p1 : nn * T2 ≤ nn * (-1) := Int.mul_le_mul_of_nonneg_left (by omega) nn0
      have p2 := d2.mul d
      have e2 : 81 * L2 * (577 * L) = 46737 * (L2 * L) := by grind
      have p3 := Int.mul_le_mul n2 n (by omega) (by omega)
      have e3 : 699000000 * L2 * (268435456 * L) = 187636383744000000 * (L2 * L) := by grind
      have p4 : 0 ≤ L2 * L := Int.mul_nonneg h20 (by omega)
      rw [e2] at p2
      rw [e3] at p3
      rw [i2] at p1
      generalize L2 * L = k at *
      generalize N2 * N = k2 at *
      generalize D2 * D = k3 at *
      clear a1 a2 b1 b2 c1 c2 s1 s2 i1 i2 j1 j2 j3 qD qD2 d n d2 n2 dc ds l1 hl hm t1
      unfold nb at p2
      omega
    · exact g
  have t3 : 576460752303423488 ≤ T2 := by
    rcases Int.lt_or_le T2 576460752303423488 with g | g
    · exfalso
      have p1 := Int.mul_le_mul (show T2 ≤ 576460752303423488 by omega) (show T2 ≤ 576460752303423488 by omega) t2 (by omega)
      have p2 := t1.mul t1
      generalize T2 * T2 = k at *
      generalize T1 * T1 = k2 at *
      generalize od' * o2' = k3 at *
      clear a1 a2 b1 b2 c1 c2 s1 s2 i1 i2 j1 j2 qD qD2 d n d2 n2 dc ds l1 hl hm t1
      unfold nb at p2
      omega
    · exact g
  clear a1 a2 b1 b2 c1 c2 s1 s2 i1 i2 j1 j2 j3 qD qD2 d n d2 n2 ds l1 hl hm t1
  unfold nb at dc; omega
theorem mt_M {n M0 M3 X Y L x y : Int} (hL : 75000000 ≤ L) (hn : nb (n - 1152921504606846976) 4294967296) (hM : M0 * M0 + M3 * M3 = n * n) (hX : nb X L) (hY : nb Y L) (hLL : L * L ≤ X * X + Y * Y) (ea : nb (1152921504606846976 * x - (M0 * X - M3 * Y)) (9 * (1073741824 * L))) (eb : nb (1152921504606846976 * y - (M3 * X + M0 * Y)) (9 * (1073741824 * L))) :
    nb (100 * x) (142 * L) ∧ nb (100 * y) (142 * L) ∧ 99 * (L * L) ≤ 100 * (x * x + y * y) := by
  have xx := hX.mul hX
  have yy := hY.mul hY
  have l1 := Int.mul_le_mul hL hL (by omega) (by omega)
  have n1 : n ≤ 1152921508901814272 := by unfold nb at hn; omega
  have n0 : 1152921500311879680 ≤ n := by unfold nb at hn; omega
  have nn1 := Int.mul_le_mul n1 n1 (by omega) (by omega)
  have nn0 := Int.mul_le_mul n0 n0 (by omega) (by omega)
  have nn2 : 0 ≤ n * n := sqnn0 n
  have hs : X * X + Y * Y ≤ 2 * (L * L) := by
    generalize L * L = k at *
    clear ea eb
    unfold nb at xx yy; omega
  have hA : (M0 * M0 + M3 * M3) * (X * X + Y * Y) ≤ 1631383929018688471 * L * (1631383929018688471 * L) := by
    have e : 1631383929018688471 * L * (1631383929018688471 * L) = 2661413523860453183494314376948317841 * (L * L) := by grind
    rw [e, hM]
    have p := Int.mul_le_mul nn1 hs (by have := sqnn0 X; have := sqnn0 Y; omega) (by omega)
    generalize L * L = k at *
    generalize n * n * (X * X + Y * Y) = k2 at *
    clear ea eb xx yy
    omega
  have ca : nb (M0 * X - M3 * Y) (1631383929018688471 * L) := by
    have := cs_le (x := M0) (y := M3) (c := X) (s := -Y) (A := 1631383929018688471 * L) (by omega) (by rw [Int.neg_mul_neg]; exact hA)
    have e : M0 * X + M3 * -Y = M0 * X - M3 * Y := by grind
    rw [e] at this; exact this
  have cb : nb (M3 * X + M0 * Y) (1631383929018688471 * L) := by
    have := cs_le (x := M3) (y := M0) (c := X) (s := Y) (A := 1631383929018688471 * L) (by omega) (by rw [show M3 * M3 + M0 * M0 = M0 * M0 + M3 * M3 by omega]; exact hA)
    exact this
  have low : 1329227985881395577067508934796902400 * (L * L) ≤ (M0 * X - M3 * Y) * (M0 * X - M3 * Y) + (M3 * X + M0 * Y) * (M3 * X + M0 * Y) := by
    have e : (M0 * X - M3 * Y) * (M0 * X - M3 * Y) + (M3 * X + M0 * Y) * (M3 * X + M0 * Y) = n * n * (X * X + Y * Y) := by rw [← hM]; grind
    rw [e]
    exact Int.mul_le_mul nn0 hLL (by omega) (by omega)
  clear hA hM nn0 nn1 nn2 hs xx yy hLL n0 n1 hn hX hY
  generalize M0 * X - M3 * Y = a at *
  generalize M3 * X + M0 * Y = b at *
  refine ⟨by unfold nb at *; omega, by unfold nb at *; omega, ?_⟩
  have i1 : 1329227995784915872903807060280344576 * (x * x + y * y) = a * a + b * b + 2 * ((1152921504606846976 * x - a) * a) + 2 * ((1152921504606846976 * y - b) * b) + (1152921504606846976 * x - a) * (1152921504606846976 * x - a) + (1152921504606846976 * y - b) * (1152921504606846976 * y - b) := by grind
  have p1 := ea.mul ca
  have p2 := eb.mul cb
  have p3 := sqnn0 (1152921504606846976 * x - a)
  have p4 := sqnn0 (1152921504606846976 * y - b)
  have e : 9 * (1073741824 * L) * (1631383929018688471 * L) = 15765166400299317800453799936 * (L * L) := by grind
  rw [e] at p1 p2
  generalize L * L = k at *
  generalize a * a + b * b = k1 at *
  generalize (1152921504606846976 * x - a) * a = k2 at *
  generalize (1152921504606846976 * y - b) * b = k3 at *
  generalize (1152921504606846976 * x - a) * (1152921504606846976 * x - a) = k4 at *
  generalize (1152921504606846976 * y - b) * (1152921504606846976 * y - b) = k5 at *
  generalize x * x + y * y = k6 at *
  clear ea eb ca cb
  unfold nb at p1 p2
  omega
theorem mt_nr {n m r : Int} (hn : nb (n - 1152921504606846976) 4294967296) (hm : nb (m - 1152921504606846976) 4294967296) (h : nb (1152921504606846976 * r - n * m) 6189700196426901374495621120) : nb (r - 1152921504606846976) 15032385536 := by
  have p := hn.mul hm
  have i : n * m = (n - 1152921504606846976) * (m - 1152921504606846976) + 1152921504606846976 * (n - 1152921504606846976) + 1152921504606846976 * (m - 1152921504606846976) + 1329227995784915872903807060280344576 := by grind
  rw [i] at h
  generalize (n - 1152921504606846976) * (m - 1152921504606846976) = k at *
  unfold nb at *; omega
theorem mxB_f (y x : Int) : nb x (mxB y x) ∧ nb y (mxB y x) ∧ mxB y x * mxB y x ≤ x * x + y * y ∧ 0 ≤ mxB y x ∧ (mxB y x = absV x ∨ mxB y x = absV y) := by
  have h : mxB y x = absV x ∨ mxB y x = absV y := by
    unfold mxB
    by_cases h : absV x > absV y
    · exact .inl (if_pos h)
    · exact .inr (if_neg h)
  refine ⟨?_, ?_, ?_, ?_, h⟩
  · unfold nb mxB absV; (repeat' split) <;> omega
  · unfold nb mxB absV; (repeat' split) <;> omega
  · have q1 := sqnn0 x
    have q2 := sqnn0 y
    rcases h with h | h <;> rw [h, absSq9] <;> omega
  · unfold mxB absV; (repeat' split) <;> omega
theorem mxB_lo {L L1 x y : Int} (hL : 75000000 ≤ L) (hx : nb x L1) (hy : nb y L1) (low : 99 * (L * L) ≤ 100 * (x * x + y * y)) : 2 * L ≤ 3 * L1 := by
  rcases Int.lt_or_le (3 * L1) (2 * L) with g | g
  · exfalso
    have p1 := hx.mul hx
    have p2 := hy.mul hy
    have h0 : 0 ≤ L1 := by unfold nb at hx; omega
    have p3 := Int.mul_le_mul (show 3 * L1 ≤ 2 * L by omega) (show 3 * L1 ≤ 2 * L by omega) (by omega) (by omega)
    have e1 : 3 * L1 * (3 * L1) = 9 * (L1 * L1) := by grind
    have e2 : 2 * L * (2 * L) = 4 * (L * L) := by grind
    have l1 := Int.mul_le_mul hL hL (by omega) (by omega)
    rw [e1, e2] at p3
    generalize L1 * L1 = a at *
    generalize L * L = b at *
    unfold nb at p1 p2; omega
  · exact g
theorem mt_num {f0 f3 g0 g3 r0 r3 p0 p3 X Y L c s x y cp sp x2 y2 k dc : Int}
    (hL : 75000000 ≤ L) (hL1 : L ≤ 2147483648) (hX : nb X L) (hY : nb Y L) (hLL : L * L ≤ X * X + Y * Y)
    (bf0 : nb f0 1073741824) (bf3 : nb f3 1073741824) (nf : nb (f0 * f0 + f3 * f3 - 1152921504606846976) 4294967296) (bg0 : nb g0 1073741824) (bg3 : nb g3 1073741824) (ng : nb (g0 * g0 + g3 * g3 - 1152921504606846976) 4294967296) (np : nb (p0 * p0 + p3 * p3 - 1152921504606846976) 4294967296)
    (hc : nb (2 * (c * 1073741824 - (f0 * f0 - f3 * f3))) 1073741824) (hs : nb (2 * (s * 1073741824 - 2 * (f0 * f3))) 1073741824) (hx : nb (2 * (x * 1073741824 - (c * X - s * Y))) 1073741824) (hy : nb (2 * (y * 1073741824 - (s * X + c * Y))) 1073741824)
    (hr0 : nb (2 * (r0 * 1073741824 - (g0 * f0 - g3 * f3))) 1073741824) (hr3 : nb (2 * (r3 * 1073741824 - (g0 * f3 + g3 * f0))) 1073741824) (hpw : nb (p3 * r0 - p0 * r3) 2684354560) (hpv : 0 ≤ p0 * r0 + p3 * r3)
    (hcp : nb (2 * (cp * 1073741824 - (p0 * p0 - p3 * p3))) 1073741824) (hsp : nb (2 * (sp * 1073741824 - 2 * (p0 * p3))) 1073741824) (hx2 : nb (2 * (x2 * 1073741824 - (cp * X - sp * Y))) 1073741824) (hy2 : nb (2 * (y2 * 1073741824 - (sp * X + cp * Y))) 1073741824)
    (hgw : nb (g3 * CG k - g0 * SG k) 2684354560) (hgv : 0 ≤ g0 * CG k + g3 * SG k) (hk : nb (2 * k - wrapV (dc - atanV y x)) 1) : nb (wrapV (dc - atanV y2 x2)) 1023 := by
  obtain ⟨ea, eb⟩ := mt_A hL hX hY hc hs hx hy
  have hMf : (f0 * f0 - f3 * f3) * (f0 * f0 - f3 * f3) + 2 * (f0 * f3) * (2 * (f0 * f3)) = (f0 * f0 + f3 * f3) * (f0 * f0 + f3 * f3) := by grind
  obtain ⟨bx, bY, low⟩ := mt_M hL nf hMf hX hY hLL ea eb
  obtain ⟨ea2, eb2⟩ := mt_A hL hX hY hcp hsp hx2 hy2
  have hMp : (p0 * p0 - p3 * p3) * (p0 * p0 - p3 * p3) + 2 * (p0 * p3) * (2 * (p0 * p3)) = (p0 * p0 + p3 * p3) * (p0 * p0 + p3 * p3) := by grind
  obtain ⟨bx2, bY2, low2⟩ := mt_M hL np hMp hX hY hLL ea2 eb2
  obtain ⟨m1, m2, m3, m4, m5⟩ := mxB_f y x
  obtain ⟨k1, k2, k3, k4, k5⟩ := mxB_f y2 x2
  have u1 := mxB_lo hL m1 m2 low
  have u2 := mxB_lo hL k1 k2 low2
  have t1 : 100 * mxB y x ≤ 142 * L := by
    unfold nb at bx bY
    rcases m5 with h | h <;> rw [h] <;> unfold absV <;> split <;> omega
  have hxs : nb x 576460752303423488 := by clear ea eb ea2 eb2 hx hy hx2 hy2 hc hs hcp hsp; unfold nb at *; omega
  have hys : nb y 576460752303423488 := by clear ea eb ea2 eb2 hx hy hx2 hy2 hc hs hcp hsp; unfold nb at *; omega
  have hxs2 : nb x2 576460752303423488 := by clear ea eb ea2 eb2 hx hy hx2 hy2 hc hs hcp hsp; unfold nb at *; omega
  have hys2 : nb y2 576460752303423488 := by clear ea eb ea2 eb2 hx hy hx2 hy2 hc hs hcp hsp; unfold nb at *; omega
  have l1 := Int.mul_le_mul hL hL (by omega) (by omega)
  have ne : ∀ {x y : Int}, 99 * (L * L) ≤ 100 * (x * x + y * y) → y ≠ 0 ∨ x ≠ 0 := by
    intro x y h
    by_cases e : y = 0
    · by_cases e' : x = 0
      · exfalso; subst e e'; generalize L * L = q at *; omega
      · exact .inr e'
    · exact .inl e
  obtain ⟨d1, d2⟩ := atan_dir hys hxs (ne low)
  obtain ⟨d3, d4⟩ := atan_dir hys2 hxs2 (ne low2)
  generalize hA : atanV y x = A at *
  generalize hB : atanV y2 x2 = B at *
  obtain ⟨s1, s2⟩ := sum_all k k
  obtain ⟨K3, K0, G0b, G3b⟩ := mt_C bg0 bg3 ng (on_circle k) s1 s2 hgw hgv
  obtain ⟨E0, E3, EN, br0, br3⟩ := mt_E bg0 bg3 bf0 bf3 rfl rfl hr0 hr3
  have nr := mt_nr ng nf EN
  obtain ⟨e1, e2⟩ := mt_B (by omega) G0b G3b hX hY ea eb E0 E3
  obtain ⟨s3, s4⟩ := sum_all A (k + k)
  obtain ⟨D, N, N1⟩ := mt_D hL e1 e2 K3 K0 G0b G3b m1 m2 t1 u1 d1 d2 (CG_bd A) (SG_bd A) (CG_bd (A + (k + k))) (SG_bd (A + (k + k))) s3 s4
  obtain ⟨F1, F2⟩ := mt_H hL rfl rfl np nr hpw hpv ea2 eb2 (CG_bd (A + (k + k))) (SG_bd (A + (k + k))) D N N1
  obtain ⟨q1, q2⟩ := dif_all (A + (k + k)) B
  obtain ⟨z1, z2⟩ := mt_F hL k4 d3 d4 F1 F2 (on_circle B) (on_circle (A + (k + k))) k3 low2 q2 q1
  obtain ⟨w0, w1, j, hj⟩ := wrap_spec (dc - A)
  have n2 : nb ((wrapV (dc - A) + A - B) - (A + (k + k) - B)) 2 := by unfold nb at hk ⊢; omega
  obtain ⟨c1, c2⟩ := CG_near n2
  have es : SG (wrapV (dc - B)) = SG (wrapV (dc - A) + A - B) := by
    rw [SG_wrap, show dc - B = (wrapV (dc - A) + A - B) + j * 6746518852 by omega, SG_per]
  have ec : CG (wrapV (dc - B)) = CG (wrapV (dc - A) + A - B) := by
    rw [CG_wrap, show dc - B = (wrapV (dc - A) + A - B) + j * 6746518852 by omega]
    unfold CG
    rw [← Int.add_assoc, SG_per]
  obtain ⟨b0, b1, -⟩ := wrap_spec (dc - B)
  refine ang_small (K := 740) (by unfold nb; omega) (by rw [ec]; unfold nb at c1; omega) (by rw [es]; unfold nb at *; omega) (by kernel_rfl) (by omega) (by omega) (by omega)
/-- Level matrices. -/
theorem lev_m {a d : Int} (hu : UnitQ a 0 0 d) :
    nb (2 * (rm0 a 0 0 d * 1073741824 - (a * a - d * d))) 1073741824 ∧ nb (2 * (rm3 a 0 0 d * 1073741824 - 2 * (a * d))) 1073741824 ∧ rm1 a 0 0 d = -rm3 a 0 0 d ∧ rm4 a 0 0 d = rm0 a 0 0 d ∧ rm2 a 0 0 d = 0 ∧ rm5 a 0 0 d = 0 ∧ rm6 a 0 0 d = 0 ∧ rm7 a 0 0 d = 0 ∧ nb (rm8 a 0 0 d) 4294967296 ∧ nb (rm0 a 0 0 d) 4294967296 ∧ nb (rm3 a 0 0 d) 4294967296 ∧ (∀ h, rmF h a 0 0 d = h) := by
  obtain ⟨e0, e1, e2, e3, e4, e5, e6, e7, e8, ef⟩ := rm_eq hu.ha hu.hb hu.hc hu.hd
  have l8 := lev8 hu
  have h0 := rn30 (mx0 a 0 0 d)
  have h3 := rn30 (mx3 a 0 0 d)
  have r0 : rndV 0 30 = 0 := by kernel_rfl
  have i0 : mx0 a 0 0 d = a * a - d * d := by unfold mx0; omega
  have i3 : mx3 a 0 0 d = 2 * (a * d) := by unfold mx3; omega
  have i4 : mx4 a 0 0 d = a * a - d * d := by unfold mx4; omega
  have i1 : mx1 a 0 0 d = -(2 * (a * d)) := by unfold mx1; omega
  have i2 : mx2 a 0 0 d = 0 := by unfold mx2; simp
  have i5 : mx5 a 0 0 d = 0 := by unfold mx5; simp
  have i6 : mx6 a 0 0 d = 0 := by unfold mx6; simp
  have i7 : mx7 a 0 0 d = 0 := by unfold mx7; simp
  rw [i0] at e0 h0
  rw [i3] at e3 h3
  rw [i1, rnd_odd] at e1
  rw [i4] at e4
  rw [i2, r0] at e2
  rw [i5, r0] at e5
  rw [i6, r0] at e6
  rw [i7, r0] at e7
  have b0 := (show nb a 1073741824 from hu.ha)
  have b3 := (show nb d 1073741824 from hu.hd)
  have p0 := b0.mul b0
  have p3 := b3.mul b3
  have p03 := b0.mul b3
  rw [← e0] at h0
  rw [← e3] at h3
  refine ⟨h0, h3, by rw [e1, e3], by rw [e4, e0], e2, e5, e6, e7, by unfold nb; omega, ?_, ?_, ef⟩
  · clear e0 e1 e2 e3 e4 e5 e6 e7 e8 i0 i1 i2 i3 i4 i5 i6 i7
    generalize rm0 a 0 0 d = m at *
    generalize rm3 a 0 0 d = m3 at *
    generalize a * a = q at *
    generalize d * d = q3 at *
    unfold nb at *; omega
  · clear e0 e1 e2 e3 e4 e5 e6 e7 e8 i0 i1 i2 i3 i4 i5 i6 i7
    generalize rm0 a 0 0 d = m at *
    generalize rm3 a 0 0 d = m3 at *
    generalize a * d = q at *
    unfold nb at *; omega
theorem nb0 {k : Int} (h : 0 ≤ k) : nb 0 k := by unfold nb; omega
theorem hyp2 {a b : Int} (ha : nb a 1099511627776) (hb : nb b 1099511627776) : (a ≤ hypV [a, b] ∧ -a ≤ hypV [a, b]) ∧ (b ≤ hypV [a, b] ∧ -b ≤ hypV [a, b]) ∧ hypH [a, b] = false := by
  have ia := inS_nb ha (by omega)
  have ib := inS_nb hb (by omega)
  obtain ⟨h1, h2, -⟩ := hyp_bd ia.1 ia.2 ib.1 ib.2
  rw [fabs_sat ia.1 ia.2] at h1
  rw [fabs_sat ib.1 ib.2] at h2
  have q0 := sqnn0 a
  have q1 := sqnn0 b
  have a2 := (ha.mul ha).2
  have b2 := (hb.mul hb).2
  have hN : a * a + b * b < 340282366920938463463374607431768211456 := by omega
  obtain ⟨r0, r1, r2⟩ := rootW_spec (N := a * a + b * b) (by omega) hN
  have r3 : rootW (a * a + b * b) ≤ 2199023255552 := root_le (by omega) hN (by omega) (by omega)
  refine ⟨?_, ?_, ?_⟩
  · generalize hypV [a, b] = z at *
    unfold absV at h1; split at h1 <;> omega
  · generalize hypV [a, b] = z at *
    unfold absV at h2; split at h2 <;> omega
  · unfold hypH
    rw [sqS2, satV_S ia, satV_S ib]
    show ((satH a || (satH b || false)) || _) = _
    rw [satH_S ia, satH_S ib, satH_in (by omega) (by omega)]
    rfl
/-- A level matrix turns a field. -/
theorem lev_f {a d X Y Z : Int} (hu : UnitQ a 0 0 d) (hX : nb X 2147483648) (hY : nb Y 2147483648) (hZ : nb Z 2147483648) :
    nb (2 * (dotV 30 [rm0 a 0 0 d, rm1 a 0 0 d, rm2 a 0 0 d] [X, Y, Z] * 1073741824 - (rm0 a 0 0 d * X - rm3 a 0 0 d * Y))) 1073741824 ∧ nb (2 * (dotV 30 [rm3 a 0 0 d, rm4 a 0 0 d, rm5 a 0 0 d] [X, Y, Z] * 1073741824 - (rm3 a 0 0 d * X + rm0 a 0 0 d * Y))) 1073741824 ∧
    dotH 30 [rm0 a 0 0 d, rm1 a 0 0 d, rm2 a 0 0 d] [X, Y, Z] = false ∧ dotH 30 [rm3 a 0 0 d, rm4 a 0 0 d, rm5 a 0 0 d] [X, Y, Z] = false ∧ dotH 30 [rm6 a 0 0 d, rm7 a 0 0 d, rm8 a 0 0 d] [X, Y, Z] = false := by
  obtain ⟨-, -, e1, e4, e2, e5, e6, e7, b8, b0, b3, -⟩ := lev_m hu
  rw [e1, e4, e2, e5, e6, e7]
  generalize rm0 a 0 0 d = c at *
  generalize rm3 a 0 0 d = s at *
  generalize rm8 a 0 0 d = t at *
  have z := nb0 (k := 4294967296) (by omega)
  have hX' := hX.le (l := 4398046511104) (by omega)
  have hY' := hY.le (l := 4398046511104) (by omega)
  have hZ' := hZ.le (l := 4398046511104) (by omega)
  obtain ⟨x1, x2⟩ := dot3 b0 b3.neg z hX' hY' hZ'
  obtain ⟨y1, y2⟩ := dot3 b3 b0 z hX' hY' hZ'
  obtain ⟨-, z2⟩ := dot3 z z b8 hX' hY' hZ'
  refine ⟨?_, ?_, x2, y2, z2⟩
  · rw [show c * X + -s * Y + 0 * Z = c * X - s * Y by grind] at x1; exact x1
  · rw [show s * X + c * Y + 0 * Z = s * X + c * Y by grind] at y1; exact y1

end Go.Proofs.Ytnabopepomjncaa
