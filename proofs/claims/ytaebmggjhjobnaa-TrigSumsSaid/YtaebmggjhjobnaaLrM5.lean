/- Joined texts. What each part proves stands ahead of it; no condition. -/
import Derived.Test.YtaebmggjhjobnaaLrM4

/- The sine and the cosine of a sum of angles (within 28), and on the circle. Plain. -/
namespace Go.Proofs.Ytaebmggjhjobnaa
open Go.Lr Go.Tg
set_option linter.unusedVariables false
set_option linter.unusedSimpArgs false

/-- Two products of numbers, each near its reference. -/
theorem prod_err {M a b c d x y z w : Int} (hM : 0 < M) (ha : nb a 1073741824) (hb : nb b 1073741824) (hc : nb c 1073741824) (hd : nb d 1073741824)
    (ea : nb (2 * (M * a - 1073741824 * x)) (11 * M)) (eb : nb (2 * (M * b - 1073741824 * y)) (11 * M)) (ec : nb (2 * (M * c - 1073741824 * z)) (11 * M)) (ed : nb (2 * (M * d - 1073741824 * w)) (11 * M)) :
    nb (4 * (M * M * (a * b + c * d) - 1152921504606846976 * (x * y + z * w))) (M * M * 94489281000) := by
  have p1 := (((hb.mul ea).add (ha.mul eb)).add ((hd.mul ec).add (hc.mul ed))).lmul (show 0 ≤ M by omega)
  have p2 := (ea.mul eb).add (ec.mul ed)
  have e : 4 * (M * M * (a * b + c * d) - 1152921504606846976 * (x * y + z * w)) = 2 * (M * (b * (2 * (M * a - 1073741824 * x)) + a * (2 * (M * b - 1073741824 * y)) + (d * (2 * (M * c - 1073741824 * z)) + c * (2 * (M * d - 1073741824 * w)))))
      - (2 * (M * a - 1073741824 * x) * (2 * (M * b - 1073741824 * y)) + 2 * (M * c - 1073741824 * z) * (2 * (M * d - 1073741824 * w))) := by grind
  rw [e]
  have e1 : M * (1073741824 * (11 * M) + 1073741824 * (11 * M) + (1073741824 * (11 * M) + 1073741824 * (11 * M))) = 47244640256 * (M * M) := by grind
  have e2 : 11 * M * (11 * M) + 11 * M * (11 * M) = 242 * (M * M) := by grind
  rw [e1] at p1
  rw [e2] at p2
  have hMM : 0 ≤ M * M := Int.mul_nonneg (by omega) (by omega)
  have e3 : M * M * 94489281000 = 94489281000 * (M * M) := by grind
  rw [e3]
  unfold nb at p1 p2 ⊢
  generalize M * (b * (2 * (M * a - 1073741824 * x)) + a * (2 * (M * b - 1073741824 * y)) + (d * (2 * (M * c - 1073741824 * z)) + c * (2 * (M * d - 1073741824 * w)))) = A at *
  generalize 2 * (M * a - 1073741824 * x) * (2 * (M * b - 1073741824 * y)) + 2 * (M * c - 1073741824 * z) * (2 * (M * d - 1073741824 * w)) = B at *
  generalize M * M = MM at *
  omega
/-- From the reference's sum to the program's. -/
theorem sum_err {M X v r q : Int} (hM : 0 < M) (h1 : nb (4 * (M * M * X - 1152921504606846976 * q)) (M * M * 94489281000)) (h2 : nb (1099511627776 * (q - M * r)) (M * M)) (h3 : nb (2 * (M * v - 1073741824 * r)) (11 * M)) :
    nb (X - 1073741824 * v) 30064771072 := by
  refine nb.cancel (m := M * M) (Int.mul_pos hM hM) ?_
  have p3 := h3.lmul (show 0 ≤ M by omega)
  have e : M * M * (X - 1073741824 * v) = (M * M * X - 1152921504606846976 * q) + 1152921504606846976 * (q - M * r) - 1073741824 * (M * (M * v - 1073741824 * r)) := by grind
  have e1 : M * (2 * (M * v - 1073741824 * r)) = 2 * (M * (M * v - 1073741824 * r)) := by grind
  have e2 : M * (11 * M) = 11 * (M * M) := by grind
  rw [e1, e2] at p3
  rw [e]
  have hMM : 0 ≤ M * M := Int.mul_nonneg (by omega) (by omega)
  unfold nb at *
  generalize M * M * X - 1152921504606846976 * q = A at *
  generalize M * (M * v - 1073741824 * r) = B at *
  generalize q - M * r = D at *
  generalize M * M = MM at *
  omega
/-- The angles' sum. -/
def SumQ (a b : Int) : Prop := nb (CG a * CG b - SG a * SG b - 1073741824 * CG (a + b)) 30064771072 ∧ nb (SG a * CG b + CG a * SG b - 1073741824 * SG (a + b)) 30064771072
theorem sum_base {a b : Int} (ha : nb a 843314856) (hb : nb b 843314856) : SumQ a b := by
  have hM := MN_pos
  have hs : nb (a + b) 1686629713 := (ha.add hb).le (by omega)
  have a1 := CG_err (ha.le (show (843314856 : Int) ≤ 1686629713 by omega))
  have a2 := (SG_err (ha.le (show (843314856 : Int) ≤ 1686629713 by omega))).le (show 10 * MN ≤ 11 * MN by omega)
  have b1 := CG_err (hb.le (show (843314856 : Int) ≤ 1686629713 by omega))
  have b2 := (SG_err (hb.le (show (843314856 : Int) ≤ 1686629713 by omega))).le (show 10 * MN ≤ 11 * MN by omega)
  have s1 := CG_err hs
  have s2 := (SG_err hs).le (show 10 * MN ≤ 11 * MN by omega)
  have c := add_c (ha.le (show (843314856 : Int) ≤ 1700000000 by omega)) (hb.le (show (843314856 : Int) ≤ 1700000000 by omega))
  have s := add_s (ha.le (show (843314856 : Int) ≤ 1700000000 by omega)) (hb.le (show (843314856 : Int) ≤ 1700000000 by omega))
  have neg : ∀ {u v : Int}, nb (2 * (MN * u - 1073741824 * v)) (11 * MN) → nb (2 * (MN * -u - 1073741824 * -v)) (11 * MN) := by
    intro u v h
    have e : 2 * (MN * -u - 1073741824 * -v) = -(2 * (MN * u - 1073741824 * v)) := by grind
    rw [e]; exact h.neg
  constructor
  · have p := prod_err hM (CG_bd a) (CG_bd b) (SG_bd a).neg (SG_bd b) a1 b1 (neg a2) b2
    have q := sum_err (v := CG (a + b)) (r := Cp (a + b)) hM p (by rw [Int.neg_mul]; exact c) s1
    rw [Int.neg_mul] at q
    exact q
  · have p := prod_err hM (SG_bd a) (CG_bd b) (CG_bd a) (SG_bd b) a2 b1 a1 b2
    exact sum_err hM p s s2
theorem sum_up {a b : Int} : SumQ (a + 1686629713) b ↔ SumQ a b := by
  unfold SumQ
  rw [show a + 1686629713 + b = a + b + 1686629713 by omega, CG_q, CG_q, SG_q, SG_q, Int.neg_mul, Int.neg_mul]
  generalize CG a * CG b = x
  generalize SG a * SG b = y
  generalize SG a * CG b = z
  generalize CG a * SG b = t
  unfold nb
  omega
theorem sum_comm {a b : Int} (h : SumQ a b) : SumQ b a := by
  unfold SumQ at *
  rw [Int.add_comm b a, Int.mul_comm (CG b), Int.mul_comm (SG b), Int.mul_comm (SG b), Int.mul_comm (CG b), Int.add_comm (CG a * SG b)]
  exact h
theorem sum_nat {a b : Int} : ∀ n : Nat, SumQ (a + n * 1686629713) b ↔ SumQ a b
  | 0 => by rw [show a + ((0 : Nat) : Int) * 1686629713 = a by omega]
  | n + 1 => by
    rw [show a + ((n + 1 : Nat) : Int) * 1686629713 = a + (n : Int) * 1686629713 + 1686629713 by omega, sum_up]
    exact sum_nat n
theorem sum_int {a b : Int} (k : Int) : SumQ (a + k * 1686629713) b ↔ SumQ a b := by
  rcases Int.le_total 0 k with h | h
  · have := sum_nat (a := a) (b := b) k.toNat
    rw [show ((k.toNat : Nat) : Int) = k by omega] at this
    exact this
  · have := sum_nat (a := a + k * 1686629713) (b := b) (-k).toNat
    rw [show a + k * 1686629713 + (((-k).toNat : Nat) : Int) * 1686629713 = a by
      rw [show (((-k).toNat : Nat) : Int) = -k by omega]; omega] at this
    exact this.symm
theorem to_base (a : Int) : ∃ x k, a = x + k * 1686629713 ∧ nb x 843314856 := by
  refine ⟨a - (a + 843314856) / 1686629713 * 1686629713, (a + 843314856) / 1686629713, by omega, ?_⟩
  unfold nb; omega
/-- The sum of any two angles. -/
theorem sum_all (a b : Int) : SumQ a b := by
  obtain ⟨x, k, rfl, hx⟩ := to_base a
  obtain ⟨y, l, rfl, hy⟩ := to_base b
  exact (sum_int k).2 (sum_comm ((sum_int l).2 (sum_comm (sum_base hx hy))))
theorem CG_0 : CG 0 = 1073741824 := by decide +kernel
theorem SG_0 : SG 0 = 0 := by decide +kernel
/-- On the circle. -/
theorem on_circle (a : Int) : nb (CG a * CG a + SG a * SG a - 1152921504606846976) 30064771072 := by
  have h := (sum_all a (-a)).1
  rw [CG_neg, SG_neg, show a + -a = 0 by omega, CG_0, Int.mul_neg] at h
  generalize CG a * CG a = x at *
  generalize SG a * SG a = y at *
  unfold nb at *
  omega
/-- The difference of two angles. -/
theorem dif_all (a b : Int) : nb (CG a * CG b + SG a * SG b - 1073741824 * CG (a - b)) 30064771072 ∧ nb (SG a * CG b - CG a * SG b - 1073741824 * SG (a - b)) 30064771072 := by
  have h := sum_all a (-b)
  unfold SumQ at h
  rw [CG_neg, SG_neg, show a + -b = a - b by omega, Int.mul_neg, Int.mul_neg] at h
  generalize CG a * CG b = x at *
  generalize SG a * SG b = y at *
  generalize SG a * CG b = z at *
  generalize CG a * SG b = t at *
  unfold nb at *
  omega
end Go.Proofs.Ytaebmggjhjobnaa

/- The program's angle of a tangent against the reference's sine and cosine. Plain. -/
namespace Go.Proofs.Ytaebmggjhjobnaa
open Go.Lr Go.Tg
set_option linter.unusedVariables false
set_option linter.unusedSimpArgs false

def pcomp : List Int → List Int → List Int
  | [], _ => []
  | a :: l, q => padd [a] (pmul q (pcomp l q))
theorem pv_comp (q : List Int) (x : Int) : ∀ l : List Int, pv (pcomp l q) x = pv l (pv q x)
  | [] => rfl
  | a :: l => by simp only [pcomp, pv_add, pv_mul, pv, pv_comp q x l]; grind
def scl (V : Int) : List Int → List Int
  | [] => []
  | a :: l => (a * V ^ l.length) :: scl V l
theorem pv_scl (V r : Int) : ∀ l : List Int, V * pv (scl V l) (r * V) = V ^ l.length * pv l r
  | [] => by simp [scl, pv]
  | a :: l => by
    have h := pv_scl V r l
    simp only [scl, pv, List.length_cons, Int.pow_succ]
    have e : V * (a * V ^ l.length + r * V * pv (scl V l) (r * V)) = V * (a * V ^ l.length) + V * r * (V * pv (scl V l) (r * V)) := by grind
    rw [e, h]; grind
/-- The angle's series, times the tangent, at the scale V; the sine and the cosine cut at the eleventh. -/
def VV : Int := 1073741824 ^ 23
def atNl : List Int := 0 :: sprd (hL [-46684427] 1 atL)
def sinT : List Int := sinL.take 12
def cosT : List Int := cosL.take 12
def sinTV : List Int := scl VV sinT
def cosTV : List Int := scl VV cosT
/-- Every second coefficient. -/
def everyL : List Int → List Int
  | [] => []
  | [a] => [a]
  | a :: _ :: l => a :: everyL l
def sigV : List Int := everyL sinTV.tail
def gamV : List Int := everyL cosTV
def atP : List Int := hL [-46684427] 1 atL
def atQ : List Int := 0 :: pmul atP atP
def atH : List Int := padd (psm 1073741824 (pmul atP (pcomp sigV atQ))) (psm (-1) (pcomp gamV atQ))
theorem pv_last (x : Int) : ∀ l : List Int, pv (l ++ [0]) x = pv l x
  | [] => by simp [pv]
  | a :: l => by simp only [List.cons_append, pv, pv_last x l]
theorem sig_eq (X : Int) : pv sinTV X = X * pv sigV (X * X) := by
  have e : sinTV ++ [0] = 0 :: sprd sigV := by kernel_rfl
  rw [← pv_last, e]; simp only [pv, pv_sprd]; omega
theorem gam_eq (X : Int) : pv cosTV X = pv gamV (X * X) := by
  have e : cosTV = sprd gamV := by kernel_rfl
  rw [e, pv_sprd]
theorem chk5 : leB (444758427 * (2 * pv (pabs atH) 197810058387514329)) (MN * VV ^ 11) = true := by kernel_rfl
theorem at_comp {t : Int} (ht : nb t 444758427) : nb (2 * (1073741824 * pv sinTV (pv atNl t) - t * pv cosTV (pv atNl t))) (MN * VV ^ 11) := by
  have hy := ht.mul ht
  have h1 := ht.mul (nb.of (pv_abs hy.abs atH))
  have h2 := leB_le chk5
  have e : 1073741824 * pv sinTV (pv atNl t) - t * pv cosTV (pv atNl t) = t * pv atH (t * t) := by
    have en : pv atNl t = t * pv atP (t * t) := by unfold atNl; simp only [pv, pv_sprd]; rw [show hL [-46684427] 1 atL = atP from rfl]; omega
    have eq : pv atNl t * pv atNl t = pv atQ (t * t) := by rw [en]; unfold atQ; simp only [pv, pv_mul]; grind
    rw [sig_eq, gam_eq, eq, en]
    unfold atH
    rw [pv_add, pv_sm, pv_sm, pv_mul, pv_comp, pv_comp]; grind
  rw [e]
  rw [show (444758427 : Int) * 444758427 = 197810058387514329 by decide] at h1
  unfold nb at *
  omega
theorem chk6 : leB (1073741824 * (11 * VV * lip sinTV (480000000 * VV))) (15 * (MN * VV ^ 11)) = true := by kernel_rfl
theorem chk7 : leB (444758427 * (11 * VV * lip cosTV (480000000 * VV))) (5 * (MN * VV ^ 11)) = true := by kernel_rfl
theorem chk8 : leB (1073741824 * (1024 * pv (pabs (padd sinL (pneg sinT))) 480000000)) MN = true := by kernel_rfl
theorem chk9 : leB (444758427 * (1024 * pv (pabs (padd cosL (pneg cosT))) 480000000)) MN = true := by kernel_rfl
theorem atW : hW 1 atL = 1073741824 ^ 22 := by decide +kernel
/-- An angle near the series' is one whose tangent it is. -/
theorem at_ref {t r : Int} (ht : nb t 444758427) (hr : nb r 480000000) (hN : nb (pv atNl t) (480000000 * VV)) (h : nb (5 * (r * VV - pv atNl t)) (11 * VV)) : nb (1073741824 * Sp r - t * Cp r) (5 * MN) := by
  have hM := MN_pos
  have hV : 0 < VV := by decide +kernel
  have hV11 : 0 < VV ^ 11 := by decide +kernel
  have g := at_comp ht
  have hrV : nb (r * VV) (480000000 * VV) := by
    have := hr.mul (show nb VV VV by unfold nb; omega)
    exact this
  have d5 : (((5 * r * VV - 5 * pv atNl t).natAbs : Int)) ≤ 11 * VV := by
    have e : 5 * r * VV - 5 * pv atNl t = 5 * (r * VV - pv atNl t) := by grind
    rw [e]; exact h.abs
  have dd : ((r * VV - pv atNl t).natAbs : Int) ≤ (r * VV - pv atNl t).natAbs := Int.le_refl _
  have l1 := nb.of (pv_lip hrV.abs hN.abs dd sinTV)
  have l2 := nb.of (pv_lip hrV.abs hN.abs dd cosTV)
  have d : 5 * ((r * VV - pv atNl t).natAbs : Int) ≤ 11 * VV := by have := h.abs; omega
  have c6 := leB_le chk6
  have c7 := leB_le chk7
  have n1 : 0 ≤ lip sinTV (480000000 * VV) := by decide +kernel
  have n2 : 0 ≤ lip cosTV (480000000 * VV) := by decide +kernel
  have m1 := Int.mul_le_mul_of_nonneg_right d n1
  have m2 := Int.mul_le_mul_of_nonneg_right d n2
  have s1 := pv_scl VV r sinT
  have s2 := pv_scl VV r cosT
  rw [show sinT.length = 12 by rfl] at s1
  rw [show cosT.length = 12 by rfl] at s2
  have e1 : pv sinTV (r * VV) = VV ^ 11 * pv sinT r := by
    have h12 : VV ^ 12 = VV * VV ^ 11 := by rw [Int.mul_comm]; exact Int.pow_succ VV 11
    rw [h12, Int.mul_assoc] at s1
    exact Int.eq_of_mul_eq_mul_left (by omega) s1
  have e2 : pv cosTV (r * VV) = VV ^ 11 * pv cosT r := by
    have h12 : VV ^ 12 = VV * VV ^ 11 := by rw [Int.mul_comm]; exact Int.pow_succ VV 11
    rw [h12, Int.mul_assoc] at s2
    exact Int.eq_of_mul_eq_mul_left (by omega) s2
  have t1 := nb.of (pv_abs hr.abs (padd sinL (pneg sinT)))
  have t2 := nb.of (pv_abs hr.abs (padd cosL (pneg cosT)))
  rw [pv_add, pv_pneg] at t1 t2
  have c8 := leB_le chk8
  have c9 := leB_le chk9
  have l2t := ht.mul l2
  have t2t := ht.mul t2
  rw [e1] at l1
  rw [e2] at l2t
  change nb (Sp r + -pv sinT r) _ at t1
  change nb (t * (Cp r + -pv cosT r)) _ at t2t
  generalize pv sinTV (pv atNl t) = FS at *
  generalize pv cosTV (pv atNl t) = FC at *
  generalize pv (pabs (padd sinL (pneg sinT))) 480000000 = b1 at *
  generalize pv (pabs (padd cosL (pneg cosT))) 480000000 = b2 at *
  generalize ((r * VV - pv atNl t).natAbs : Int) = D at *
  generalize lip sinTV (480000000 * VV) = L1 at *
  generalize lip cosTV (480000000 * VV) = L2 at *
  generalize pv sinT r = ps at *
  generalize pv cosT r = pc at *
  generalize Sp r = sr at *
  generalize Cp r = cr at *
  have k1 : 1073741824 * (11 * VV * L1) ≤ 15 * (MN * VV ^ 11) := c6
  have k2 : 444758427 * (11 * VV * L2) ≤ 5 * (MN * VV ^ 11) := c7
  generalize VV * L1 = VL1 at *
  refine nb.cancel (m := VV ^ 11) hV11 ?_
  have q1 := t1.lmul (show 0 ≤ VV ^ 11 by omega)
  have q2 := t2t.lmul (show 0 ≤ VV ^ 11 by omega)
  have q8 := Int.mul_le_mul_of_nonneg_left c8 (show 0 ≤ VV ^ 11 by omega)
  have q9 := Int.mul_le_mul_of_nonneg_left c9 (show 0 ≤ VV ^ 11 by omega)
  generalize VV ^ 11 = V at *
  generalize MN = M at *
  have e : V * (1073741824 * sr - t * cr) = 1073741824 * (V * (sr + -ps)) - V * (t * (cr + -pc)) + 1073741824 * (V * ps - FS) - t * (V * pc - FC) + (1073741824 * FS - t * FC) := by grind
  rw [e]
  have e3 : V * (5 * M) = 5 * (M * V) := by grind
  have e4 : V * (1073741824 * (1024 * b1)) = 1099511627776 * (V * b1) := by grind
  have e5 : V * (444758427 * (1024 * b2)) = 1024 * (V * (444758427 * b2)) := by grind
  have e6 : V * M = M * V := Int.mul_comm ..
  rw [e3]
  rw [e4, e6] at q8
  rw [e5, e6] at q9
  have e7 : 11 * VV * L1 = 11 * VV * L1 := rfl
  have e8 : 5 * D * L1 = 5 * (D * L1) := by grind
  have e9 : 5 * D * L2 = 5 * (D * L2) := by grind
  rw [e8] at m1
  rw [e9] at m2
  unfold nb at *
  generalize V * (sr + -ps) = A at *
  generalize V * (t * (cr + -pc)) = B at *
  generalize V * ps - FS = Y at *
  generalize t * (V * pc - FC) = Z at *
  generalize 1073741824 * FS - t * FC = X at *
  generalize 11 * VV * L1 = X1 at *
  generalize 11 * VV * L2 = X2 at *
  generalize D * L1 = D1 at *
  generalize D * L2 = D2 at *
  generalize M * V = MV at *
  generalize V * b1 = B1 at *
  generalize V * (444758427 * b2) = B2 at *
  omega
theorem chk10 : leB (pv (pabs atNl) 444758427) (479000000 * VV) = true := by kernel_rfl
/-- The angle of a small tangent. -/
def coreM (t : Int) : Int := mulV t (serV (mulV t t 30) (-46684427) atL) 30
theorem core_ser {t : Int} (ht : nb t 444758427) : ∃ S, coreM t = mulV t S 30 ∧ 815000000 ≤ S ∧ S ≤ 1332000000 ∧ nb (S * 1073741824 ^ 22 - pv (hL [-46684427] 1 atL) (t * t)) (4 * 1073741824 ^ 22) ∧ nb (2 * (coreM t * 1073741824 - t * S)) 1073741824 := by
  have h2 := ht.mul ht
  have q0 : 0 ≤ t * t := by
    rcases Int.le_total 0 t with k | k
    · exact Int.mul_nonneg k k
    · exact Int.mul_nonneg_of_nonpos_of_nonpos k k
  have q1 : t * t ≤ 197810058387514329 := by unfold nb at h2; omega
  have hz := mul30 (ht.le (show (444758427 : Int) ≤ 4294967296 by omega)) (ht.le (show (444758427 : Int) ≤ 4294967296 by omega))
  have hl : atL = [51130563, -56512728, 63161284, -71582788, 82595525, -97612893, 119304647, -153391689, 214748365, -357913941] ++ [1073741824] := rfl
  have hk : ∀ k ∈ [51130563, -56512728, 63161284, -71582788, 82595525, -97612893, 119304647, -153391689, 214748365, -357913941], nb k 536870912 := by unfold nb; simp
  obtain ⟨a0, a1, -⟩ := ser_all (a := -46684427) q0 (by omega) hz (by unfold nb; omega) hk
  obtain ⟨b0, -, -⟩ := ser_err (x2 := t * t) q0 (by omega) hz _ (-46684427) (-46684427) 1 (by omega) hk (by unfold nb; omega) (by unfold nb; omega)
  have ea := ser_app (mulV t t 30) 1073741824 [51130563, -56512728, 63161284, -71582788, 82595525, -97612893, 119304647, -153391689, 214748365, -357913941] (-46684427)
  rw [← hl] at a0 a1 ea
  have zb : nb (mulV t t 30) 184230000 := by unfold nb at hz ⊢; omega
  have hm := mul30 (zb.le (show (184230000 : Int) ≤ 4294967296 by omega)) (b0.le (show (1503238553 : Int) ≤ 4294967296 by omega))
  have hzs := zb.mul b0
  generalize serV (mulV t t 30) (-46684427) [51130563, -56512728, 63161284, -71582788, 82595525, -97612893, 119304647, -153391689, 214748365, -357913941] = s1 at *
  have mb : nb (mulV (mulV t t 30) s1 30) 258100000 := by unfold nb at *; omega
  rw [addnb (by unfold nb; omega) (mb.le (by omega))] at ea
  rw [atW] at a1
  refine ⟨serV (mulV t t 30) (-46684427) atL, rfl, ?_, ?_, a1, mul30 (ht.le (by omega)) (a0.le (by omega))⟩
  · rw [ea]; unfold nb at mb; omega
  · rw [ea]; unfold nb at mb; omega
theorem core_tan {t : Int} (ht : nb t 444758427) : nb (1073741824 * SG (coreM t) - t * CG (coreM t)) 13958643712 ∧ nb (coreM t) 480000000 ∧ (0 < t → 0 < coreM t) ∧ (t = 0 → coreM t = 0) ∧ (t < 0 → coreM t < 0) := by
  obtain ⟨S, -, S0, S1, hS, hm⟩ := core_ser ht
  generalize coreM t = r at *
  have hM := MN_pos
  have hV : 0 < VV := by decide +kernel
  have nN := ht.abs
  have n1 := nb.of (pv_abs ht.abs atNl)
  have c10 := leB_le chk10
  have n2 : nb (pv atNl t) (479000000 * VV) := n1.le c10
  have en : pv atNl t = t * pv (hL [-46684427] 1 atL) (t * t) := by unfold atNl; simp only [pv, pv_sprd]; omega
  have hd : nb (5 * (r * VV - pv atNl t)) (11 * VV) := by
    rw [en]
    have b1 := ht.mul hS
    have e : 2 * (r * VV - t * pv (hL [-46684427] 1 atL) (t * t)) = 1073741824 ^ 22 * (2 * (r * 1073741824 - t * S)) + 2 * (t * (S * 1073741824 ^ 22 - pv (hL [-46684427] 1 atL) (t * t))) := by
      rw [show VV = 1073741824 * 1073741824 ^ 22 by decide +kernel]; grind
    have ev : VV = 1073741824 ^ 23 := rfl
    generalize pv (hL [-46684427] 1 atL) (t * t) = p at *
    rw [ev] at *
    unfold nb at *
    generalize t * (S * 1073741824 ^ 22 - p) = A at *
    generalize 2 * (r * 1073741824 - t * S) = B at *
    generalize r * 1073741824 ^ 23 - t * p = X at *
    omega
  have hr : nb r 480000000 := by
    generalize pv atNl t = N at *
    have k : nb (r * VV) (479000003 * VV) := by
      unfold nb at *
      generalize VV = V at *
      generalize r * V = rV at *
      omega
    have := nb.cancel (a := r) (k := 479000003) hV (by rw [Int.mul_comm VV r, Int.mul_comm VV]; exact k)
    exact this.le (by omega)
  have hf := at_ref ht hr (n2.le (by omega)) hd
  have s := (SG_err (hr.le (show (480000000 : Int) ≤ 1686629713 by omega))).lmul (show (0 : Int) ≤ 1073741824 by omega)
  have c := ht.mul (CG_err (hr.le (show (480000000 : Int) ≤ 1686629713 by omega)))
  refine ⟨?_, hr, ?_, ?_, ?_⟩
  · refine nb.cancel hM ?_
    have e : 2 * (MN * (1073741824 * SG r - t * CG r)) = 1073741824 * (2 * (MN * SG r - 1073741824 * Sp r)) - t * (2 * (MN * CG r - 1073741824 * Cp r)) + 2147483648 * (1073741824 * Sp r - t * Cp r) := by grind
    unfold nb at *
    generalize MN * (1073741824 * SG r - t * CG r) = X at *
    generalize 2 * (MN * SG r - 1073741824 * Sp r) = A at *
    generalize t * (2 * (MN * CG r - 1073741824 * Cp r)) = B at *
    generalize 1073741824 * Sp r - t * Cp r = D at *
    generalize MN = M at *
    omega
  · intro h
    have := Int.mul_le_mul (show 1 ≤ t by omega) S0 (by omega) (by omega)
    unfold nb at hm; omega
  · rintro rfl
    unfold nb at hm; omega
  · intro h
    have := Int.mul_le_mul (show 1 ≤ -t by omega) S0 (by omega) (by omega)
    rw [Int.neg_mul] at this
    unfold nb at hm; omega
end Go.Proofs.Ytaebmggjhjobnaa

/- The program's angle of a point: the point lies in that direction (within 81). Plain. -/
namespace Go.Proofs.Ytaebmggjhjobnaa
open Go.Lr Go.Tg
set_option linter.unusedVariables false
set_option linter.unusedSimpArgs false

theorem chk11 : leB (100 * pv (pabs (padd cosL [-MN])) 843400000) (33 * MN) = true := by kernel_rfl
theorem CG_low {r : Int} (hr : nb r 843400000) : 700000000 ≤ CG r := by
  have h := nb.of (pv_abs hr.abs (padd cosL [-MN]))
  have c := leB_le chk11
  rw [pv_add] at h
  have e := CG_err (hr.le (show (843400000 : Int) ≤ 1686629713 by omega))
  have hM := MN_pos
  change nb (Cp r + (-MN + r * 0)) _ at h
  generalize pv (pabs (padd cosL [-MN])) 843400000 = b at *
  generalize Cp r = cp at *
  rw [Int.mul_zero, Int.add_zero] at h
  rcases Int.lt_or_le (CG r) 700000000 with g | g
  · exfalso
    have := Int.mul_le_mul_of_nonneg_left (show CG r ≤ 699999999 by omega) (show 0 ≤ MN by omega)
    unfold nb at *
    generalize MN * CG r = X at *
    generalize MN = M at *
    omega
  · exact g
theorem CG_E : CG 843314857 = 759250124 := by decide +kernel
theorem SG_E : SG 843314857 = 759250125 := by decide +kernel
/-- A tangent above the sixteenth's, less an eighth turn. -/
theorem tt_ok {t : Int} (h0 : 444758427 ≤ t) (h1 : t ≤ 1073741824) : -444758427 ≤ ttV true t ∧ ttV true t ≤ 0 ∧ nb (2 * (ttV true t * (t + 1073741824) - (t - 1073741824) * 1073741824)) (t + 1073741824) := by
  have e1 : wr IntKind.i64 (t - 1073741824) = t - 1073741824 := w64_in (by omega) (by omega)
  have e2 : wr IntKind.i64 (t + 1073741824) = t + 1073741824 := w64_in (by omega) (by omega)
  have hd : divV ((t - 1073741824) * 1073741824) (t + 1073741824) = -quoR ((1073741824 - t) * 1073741824) (t + 1073741824) := by
    unfold divV
    rw [absV_neg (a := (t - 1073741824) * 1073741824) (by omega), absV_pos (a := t + 1073741824) (by omega)]
    have e : -((t - 1073741824) * 1073741824) = (1073741824 - t) * 1073741824 := by omega
    rw [e, decide_eq_false (show ¬ t + 1073741824 < 0 by omega)]
    by_cases h : (t - 1073741824) * 1073741824 < 0
    · rw [decide_eq_true h]; rfl
    · have : t = 1073741824 := by omega
      subst this; decide
  have hq := quo_bd (a := (1073741824 - t) * 1073741824) (b := t + 1073741824) (by omega) (by omega)
  have hn : 0 ≤ quoR ((1073741824 - t) * 1073741824) (t + 1073741824) := by
    have := Int.ediv_nonneg (a := (1073741824 - t) * 1073741824) (b := t + 1073741824) (by omega) (by omega)
    unfold quoR; split <;> omega
  have hle : quoR ((1073741824 - t) * 1073741824) (t + 1073741824) ≤ 444758427 := by
    rcases Int.lt_or_le 444758427 (quoR ((1073741824 - t) * 1073741824) (t + 1073741824)) with h | h
    · exfalso
      have : 444758428 * (t + 1073741824) ≤ quoR ((1073741824 - t) * 1073741824) (t + 1073741824) * (t + 1073741824) := Int.mul_le_mul_of_nonneg_right (by omega) (by omega)
      omega
    · exact h
  have ev : ttV true t = -quoR ((1073741824 - t) * 1073741824) (t + 1073741824) := by
    show divPV (wr IntKind.i64 (t - 1073741824)) (wr IntKind.i64 (t + 1073741824)) 30 = _
    rw [e1, e2]
    have e : pow2 (Int.toNat 30) = 1073741824 := rfl
    unfold divPV byV
    rw [if_neg (by decide), if_neg (by decide), e, sat_in (a := t - 1073741824) (by omega) (by omega), sat_in (a := t + 1073741824) (by omega) (by omega), if_neg (by omega), hd, sat_in (by omega) (by omega)]
  rw [ev]
  generalize quoR ((1073741824 - t) * 1073741824) (t + 1073741824) = q at *
  refine ⟨by omega, by omega, ?_⟩
  unfold nb
  rw [Int.neg_mul]
  generalize q * (t + 1073741824) = p at *
  omega
/-- The angle of a tangent up to one. -/
def coreA (t : Int) : Int := r0V (decide (t > 444758426)) t
theorem core_big {t q r : Int} (h0 : 0 ≤ t) (h1 : t ≤ 1073741824) (hq : nb (2 * (q * (t + 1073741824) - (t - 1073741824) * 1073741824)) (t + 1073741824)) (hr : nb (1073741824 * SG r - q * CG r) 13958643712) :
    nb (1073741824 * SG (843314857 + r) - t * CG (843314857 + r)) 85899345920 := by
  have hs := sum_all 843314857 r
  unfold SumQ at hs
  rw [CG_E, SG_E] at hs
  obtain ⟨s1, s2⟩ := hs
  have cb := CG_bd r
  have sb := SG_bd r
  generalize CG (843314857 + r) = C at *
  generalize SG (843314857 + r) = S at *
  generalize CG r = c at *
  generalize SG r = s at *
  have tn : nb t 1073741824 := ⟨by omega, h1⟩
  have a1 := tn.mul s1
  have a2 := tn.mul sb
  have a4 := tn.mul cb
  have a3 := (show nb (t + 1073741824) 2147483648 by unfold nb; omega).mul hr
  have a5 := hq.mul cb
  have a5' : nb (2 * (q * (t + 1073741824) - (t - 1073741824) * 1073741824) * c) (2147483648 * 1073741824) := a5.le (Int.mul_le_mul_of_nonneg_right (by omega) (by omega))
  -- U * G, where G = (U - t) c + (U + t) s
  have g : 2 * (1073741824 * ((1073741824 - t) * c + (1073741824 + t) * s)) = 2 * ((t + 1073741824) * (1073741824 * s - q * c)) + 2 * (q * (t + 1073741824) - (t - 1073741824) * 1073741824) * c := by grind
  have gb : nb ((1073741824 - t) * c + (1073741824 + t) * s) 28991029248 := by
    unfold nb at a3 a5' ⊢
    generalize (t + 1073741824) * (1073741824 * s - q * c) = A at *
    generalize 2 * (q * (t + 1073741824) - (t - 1073741824) * 1073741824) * c = B at *
    generalize (1073741824 - t) * c + (1073741824 + t) * s = G at *
    omega
  have e : 1073741824 * (1073741824 * S - t * C) = 759250124 * ((1073741824 - t) * c + (1073741824 + t) * s) + 1073741824 * c + t * s - 1073741824 * (759250125 * c + 759250124 * s - 1073741824 * S) + t * (759250124 * c - 759250125 * s - 1073741824 * C) := by grind
  refine nb.cancel (m := 1073741824) (by omega) ?_
  rw [e]
  unfold nb at *
  generalize (1073741824 - t) * c + (1073741824 + t) * s = G at *
  generalize t * (759250124 * c - 759250125 * s - 1073741824 * C) = X at *
  generalize t * s = Y at *
  omega
theorem core_dir {t : Int} (h0 : 0 ≤ t) (h1 : t ≤ 1073741824) : nb (1073741824 * SG (coreA t) - t * CG (coreA t)) 85899345920 ∧ 0 ≤ coreA t ∧ coreA t ≤ 843314857 ∧ (0 < t → 0 < coreA t) ∧ (t = 0 → coreA t = 0) := by
  unfold coreA r0V
  by_cases hb : t > 444758426
  · rw [decide_eq_true hb]
    obtain ⟨b0, b1, b2⟩ := tt_ok (t := t) (by omega) h1
    generalize ttV true t = q at *
    simp only [cond_true]
    have hc := core_tan (t := q) (by unfold nb; omega)
    rw [show mulV q (serV (mulV q q 30) (-46684427) atL) 30 = coreM q from rfl]
    obtain ⟨c1, c2, c3, c4, c5⟩ := hc
    have hle : coreM q ≤ 0 := by
      rcases Int.lt_or_le q 0 with k | k
      · exact Int.le_of_lt (c5 k)
      · exact Int.le_of_eq (c4 (by omega))
    unfold nb at c2
    rw [wr_i, w64_in (by omega) (by omega)]
    exact ⟨core_big h0 h1 b2 c1, by omega, by omega, by omega, by omega⟩
  · rw [decide_eq_false hb]
    show nb (1073741824 * SG (wr IntKind.i64 (0 + coreM t)) - t * CG (wr IntKind.i64 (0 + coreM t))) 85899345920 ∧ 0 ≤ wr IntKind.i64 (0 + coreM t) ∧ wr IntKind.i64 (0 + coreM t) ≤ 843314857 ∧ (0 < t → 0 < wr IntKind.i64 (0 + coreM t)) ∧ (t = 0 → wr IntKind.i64 (0 + coreM t) = 0)
    obtain ⟨c1, c2, c3, c4, c5⟩ := core_tan (t := t) (by unfold nb; omega)
    have e : wr IntKind.i64 (0 + coreM t) = coreM t := by
      unfold nb at c2
      rw [wr_i, w64_in (by omega) (by omega)]; omega
    rw [e]
    have hle : 0 ≤ coreM t := by
      rcases Int.lt_or_le 0 t with k | k
      · exact Int.le_of_lt (c3 k)
      · exact Int.le_of_eq (c4 (by omega)).symm
    exact ⟨c1.le (by omega), hle, by unfold nb at c2; omega, c3, c4⟩

/-- The lesser and the greater side. -/
def mnB (y x : Int) : Int := if absV x < absV y then absV x else absV y
def mxB (y x : Int) : Int := if absV x > absV y then absV x else absV y
theorem fabs_in {a : Int} (h : nb a 576460752303423488) : fabsV (satV a) = absV a := by
  unfold nb at h
  rw [sat_in (by omega) (by omega)]
  unfold fabsV absV; (repeat' split) <;> omega
theorem mnB_eq {y x : Int} (hy : nb y 576460752303423488) (hx : nb x 576460752303423488) : mnV y x = mnB y x ∧ mxV y x = mxB y x := by
  unfold mnV mxV mnB mxB
  rw [fabs_in hy, fabs_in hx]; exact ⟨rfl, rfl⟩
theorem mB_bd {y x : Int} (hy : nb y 576460752303423488) (hx : nb x 576460752303423488) (h : y ≠ 0 ∨ x ≠ 0) :
    0 ≤ mnB y x ∧ mnB y x ≤ mxB y x ∧ 1 ≤ mxB y x ∧ mxB y x ≤ 576460752303423488 := by
  unfold nb at *
  unfold mnB mxB absV; (repeat' split) <;> omega
theorem divq' {v u : Int} (h0 : 0 ≤ v) (h1 : v ≤ u) (h2 : 1 ≤ u) (h3 : u ≤ 1152921504606846976) : divPV v u 30 = quoR (v * 1073741824) u ∧ 0 ≤ quoR (v * 1073741824) u ∧ quoR (v * 1073741824) u ≤ 1073741824 := by
  have hb := quo_bd (a := v * 1073741824) (b := u) (by omega) (by omega)
  have hd := div_pos (a := v * 1073741824) (b := u) (by omega) (by omega)
  have hn : 0 ≤ quoR (v * 1073741824) u := by
    have := Int.ediv_nonneg (a := v * 1073741824) (b := u) (by omega) (by omega)
    unfold quoR; split <;> omega
  have hle : quoR (v * 1073741824) u ≤ 1073741824 := by
    rcases Int.lt_or_le 1073741824 (quoR (v * 1073741824) u) with h | h
    · exfalso
      have : 1073741825 * u ≤ quoR (v * 1073741824) u * u := Int.mul_le_mul_of_nonneg_right (by omega) (by omega)
      omega
    · exact h
  refine ⟨?_, hn, hle⟩
  have e : pow2 (Int.toNat 30) = 1073741824 := rfl
  unfold divPV byV
  rw [if_neg (by decide), if_neg (by decide), e, sat_in (a := v) (by omega) (by omega), sat_in (a := u) (by omega) h3, if_neg (by omega), hd, sat_in (by omega) (by omega)]
/-- What the angle is, by the signs. -/
def angB (y x r : Int) : Int :=
  if y < 0 then -(if x < 0 then 3373259426 - (if absV y > absV x then 1686629713 - r else r) else (if absV y > absV x then 1686629713 - r else r)) else (if x < 0 then 3373259426 - (if absV y > absV x then 1686629713 - r else r) else (if absV y > absV x then 1686629713 - r else r))
theorem atanV_eq {y x : Int} (hy : nb y 576460752303423488) (hx : nb x 576460752303423488) (hne : y ≠ 0 ∨ x ≠ 0) :
    atanV y x = angB y x (coreA (quoR (mnB y x * 1073741824) (mxB y x))) := by
  obtain ⟨e1, e2⟩ := mnB_eq hy hx
  obtain ⟨b0, b1, b2, b3⟩ := mB_bd hy hx hne
  obtain ⟨q1, q2, q3⟩ := divq' b0 b1 b2 (by omega)
  obtain ⟨-, c0, c1, -, -⟩ := core_dir q2 q3
  have et : t0V y x = quoR (mnB y x * 1073741824) (mxB y x) := by unfold t0V; rw [e1, e2, q1]
  have f1 := fabs_in hy
  have f2 := fabs_in hx
  unfold nb at hy hx
  unfold atanV
  rw [cond_f (by rw [e2]; simp; omega), f1, f2, sat_in (a := y) (by omega) (by omega), sat_in (a := x) (by omega) (by omega), et]
  unfold atanB angB
  have ec : r0V (decide (quoR (mnB y x * 1073741824) (mxB y x) > 444758426)) (quoR (mnB y x * 1073741824) (mxB y x)) = coreA (quoR (mnB y x * 1073741824) (mxB y x)) := rfl
  rw [ec]
  generalize coreA (quoR (mnB y x * 1073741824) (mxB y x)) = r at *
  have w1 : wr IntKind.i64 (1686629713 - r) = 1686629713 - r := w64_in (by omega) (by omega)
  rw [w1]
  have hv0 : (bif decide (absV y > absV x) then 1686629713 - r else r) = if absV y > absV x then 1686629713 - r else r := by
    by_cases h : absV y > absV x
    · rw [decide_eq_true h, if_pos h]; rfl
    · rw [decide_eq_false h, if_neg h]; rfl
  rw [hv0]
  have hv : 0 ≤ (if absV y > absV x then 1686629713 - r else r) ∧ (if absV y > absV x then 1686629713 - r else r) ≤ 1686629713 := by split <;> omega
  generalize (if absV y > absV x then 1686629713 - r else r) = u at *
  have w2 : wr IntKind.i64 (3373259426 - u) = 3373259426 - u := w64_in (by omega) (by omega)
  rw [w2]
  have hu : (bif decide (x < 0) then 3373259426 - u else u) = if x < 0 then 3373259426 - u else u := by
    by_cases h : x < 0
    · rw [decide_eq_true h, if_pos h]; rfl
    · rw [decide_eq_false h, if_neg h]; rfl
  rw [hu]
  have hv2 : 0 ≤ (if x < 0 then 3373259426 - u else u) ∧ (if x < 0 then 3373259426 - u else u) ≤ 3373259426 := by split <;> omega
  generalize (if x < 0 then 3373259426 - u else u) = p at *
  have w3 : wr IntKind.i64 (0 - p) = -p := by have := w64_in (x := 0 - p) (by omega) (by omega); rw [wr_i, this]; omega
  rw [w3]
  by_cases h : y < 0
  · rw [decide_eq_true h, if_pos h]; rfl
  · rw [decide_eq_false h, if_neg h]; rfl
/-- The direction: across within 81 of the greater side; ahead. -/
def Dir (y x u r : Int) : Prop := nb (y * CG r - x * SG r) (81 * u) ∧ 699000000 * u ≤ x * CG r + y * SG r
theorem dir_base {t u v : Int} (hu : 1 ≤ u) (hv0 : 0 ≤ v) (hv1 : v ≤ u) (h0 : 0 ≤ t) (h1 : t ≤ 1073741824) (hq : nb (2 * (t * u - v * 1073741824)) u) : Dir v u u (coreA t) := by
  obtain ⟨d, c0, c1, -, -⟩ := core_dir h0 h1
  have cl := CG_low (r := coreA t) (by unfold nb; omega)
  have cb := CG_bd (coreA t)
  unfold Dir
  generalize coreA t = r at *
  generalize CG r = c at *
  generalize SG r = s at *
  have s0 : -81 ≤ s := by
    have := Int.mul_nonneg h0 (show 0 ≤ c by omega)
    unfold nb at d
    generalize t * c = tc at *
    omega
  constructor
  · refine nb.cancel (m := 1073741824) (by omega) ?_
    have a1 := d.lmul (show 0 ≤ u by omega)
    have a2 := hq.mul cb
    have e : 2 * (1073741824 * (v * c - u * s)) = -(2 * (t * u - v * 1073741824) * c) - 2 * (u * (1073741824 * s - t * c)) := by grind
    unfold nb at a1 a2 ⊢
    generalize 2 * (t * u - v * 1073741824) * c = A at *
    generalize u * (1073741824 * s - t * c) = B at *
    generalize v * c - u * s = X at *
    omega
  · have a1 := Int.mul_le_mul_of_nonneg_left cl (show 0 ≤ u by omega)
    have a2 := Int.mul_le_mul_of_nonneg_left s0 hv0
    have e1 : u * 700000000 = 700000000 * u := Int.mul_comm ..
    omega
theorem atan_dir {y x : Int} (hy : nb y 576460752303423488) (hx : nb x 576460752303423488) (hne : y ≠ 0 ∨ x ≠ 0) : Dir y x (mxB y x) (atanV y x) := by
  obtain ⟨b0, b1, b2, b3⟩ := mB_bd hy hx hne
  obtain ⟨q1, q2, q3⟩ := divq' b0 b1 b2 (by omega)
  have hb := quo_bd (a := mnB y x * 1073741824) (b := mxB y x) (by omega) (by omega)
  have hd := dir_base b2 b0 b1 q2 q3 (show nb _ _ from hb)
  rw [atanV_eq hy hx hne]
  generalize coreA (quoR (mnB y x * 1073741824) (mxB y x)) = r at *
  unfold Dir at *
  -- the steep ones
  have h1 : nb (absV y * CG (if absV y > absV x then 1686629713 - r else r) - absV x * SG (if absV y > absV x then 1686629713 - r else r)) (81 * mxB y x) ∧ 699000000 * mxB y x ≤ absV x * CG (if absV y > absV x then 1686629713 - r else r) + absV y * SG (if absV y > absV x then 1686629713 - r else r) := by
    by_cases h : absV y > absV x
    · have e1 : mnB y x = absV x := by unfold mnB; rw [if_pos (by omega)]
      have e2 : mxB y x = absV y := by unfold mxB; rw [if_neg (by omega)]
      rw [if_pos h, CG_co, SG_co]
      rw [e1, e2] at hd
      rw [e2]
      generalize absV x * CG r = A at *
      generalize absV y * SG r = B at *
      generalize absV y * CG r = C at *
      generalize absV x * SG r = D at *
      unfold nb at *
      omega
    · rw [if_neg h]
      by_cases h2 : absV x = absV y
      · have e1 : mnB y x = absV y := by unfold mnB; rw [if_neg (by omega)]
        have e2 : mxB y x = absV x := by unfold mxB; rw [if_neg (by omega)]; exact h2.symm
        rw [e1, e2] at hd; rw [e2]; exact hd
      · have e1 : mnB y x = absV y := by unfold mnB; rw [if_neg (by omega)]
        have e2 : mxB y x = absV x := by unfold mxB; rw [if_pos (by omega)]
        rw [e1, e2] at hd; rw [e2]; exact hd
  unfold angB
  generalize (if absV y > absV x then 1686629713 - r else r) = p at *
  have h2 : nb (absV y * CG (if x < 0 then 3373259426 - p else p) - x * SG (if x < 0 then 3373259426 - p else p)) (81 * mxB y x) ∧ 699000000 * mxB y x ≤ x * CG (if x < 0 then 3373259426 - p else p) + absV y * SG (if x < 0 then 3373259426 - p else p) := by
    by_cases h : x < 0
    · rw [if_pos h, CG_half, SG_half]
      rw [absV_neg (a := x) (by omega), Int.neg_mul, Int.neg_mul] at h1
      rw [Int.mul_neg, Int.mul_neg]
      generalize x * CG p = A at *
      generalize absV y * SG p = B at *
      generalize absV y * CG p = C at *
      generalize x * SG p = D at *
      unfold nb at *
      omega
    · rw [if_neg h]
      rw [absV_pos (a := x) (by omega)] at h1
      exact h1
  generalize (if x < 0 then 3373259426 - p else p) = g at *
  by_cases h : y < 0
  · rw [if_pos h, CG_neg, SG_neg]
    rw [absV_neg (a := y) (by omega), Int.neg_mul, Int.neg_mul] at h2
    rw [Int.mul_neg, Int.mul_neg]
    generalize x * CG g = A at *
    generalize y * SG g = B at *
    generalize y * CG g = C at *
    generalize x * SG g = D at *
    unfold nb at *
    omega
  · rw [if_neg h]
    rw [absV_pos (a := y) (by omega)] at h2
    exact h2
/-- Its bounds, and its sign. -/
theorem atan_sg {y x : Int} (hy : nb y 576460752303423488) (hx : nb x 576460752303423488) (hne : y ≠ 0 ∨ x ≠ 0) : nb (atanV y x) 3373259426 ∧ (0 ≤ y → 0 ≤ atanV y x) ∧ (y ≤ 0 → 0 ≤ x → atanV y x ≤ 0) ∧ (y < 0 → atanV y x ≤ 0) ∧ (0 ≤ x → nb (atanV y x) 1686629713) := by
  obtain ⟨b0, b1, b2, b3⟩ := mB_bd hy hx hne
  obtain ⟨q1, q2, q3⟩ := divq' b0 b1 b2 (by omega)
  obtain ⟨-, c0, c1, -, c3⟩ := core_dir q2 q3
  rw [atanV_eq hy hx hne]
  have hz : y = 0 → coreA (quoR (mnB y x * 1073741824) (mxB y x)) = 0 ∧ ¬ absV y > absV x := by
    rintro rfl
    refine ⟨c3 ?_, ?_⟩
    · have : mnB 0 x = 0 := by unfold mnB absV; (repeat' split) <;> omega
      rw [this, Int.zero_mul]
      exact quoR_zero (by omega)
    · unfold absV; (repeat' split) <;> omega
  generalize coreA (quoR (mnB y x * 1073741824) (mxB y x)) = r at *
  unfold angB nb
  by_cases h0 : y = 0
  · obtain ⟨z1, z2⟩ := hz h0
    rw [if_neg z2, z1]
    (repeat' split) <;> omega
  · (repeat' split) <;> omega
end Go.Proofs.Ytaebmggjhjobnaa

/- Nothing is clamped in sines, cosines, angles. Plain. -/
namespace Go.Proofs.Ytaebmggjhjobnaa
open Go.Lr Go.Tg
set_option linter.unusedVariables false
set_option linter.unusedSimpArgs false

theorem mulH30 {a b : Int} (ha : nb a 4294967296) (hb : nb b 4294967296) : mulH a b 30 = false := by
  have h := rnd_bd (a * b) 30
  rw [show pow2 30 = 1073741824 from rfl] at h
  have hp := ha.mul hb
  unfold nb at ha hb hp
  unfold mulH rndH
  rw [sat_in (a := a) (by omega) (by omega), sat_in (a := b) (by omega) (by omega), satH_in (a := a) (by omega) (by omega), satH_in (a := b) (by omega) (by omega), show Int.toNat 30 = 30 from rfl, satH_in (a := rndV (a * b) 30) (by omega) (by omega)]
  decide
theorem addHnb {a b : Int} (ha : nb a 4294967296) (hb : nb b 4294967296) : faddH [a, b] = false := by
  unfold nb at ha hb
  unfold faddH
  simp only [sumS, anyH]
  rw [sat_in (a := a) (by omega) (by omega), sat_in (a := b) (by omega) (by omega), satH_in (a := a) (by omega) (by omega), satH_in (a := b) (by omega) (by omega), satH_in (by omega) (by omega)]
  rfl
theorem serH_ok {z x2 : Int} (hx0 : 0 ≤ x2) (hx1 : x2 ≤ 711180000000000000) (hz : nb (2 * (z * 1073741824 - x2)) 1073741824) : ∀ (l : List Int) (h : Bool) (s p w : Int), 0 < w → (∀ k ∈ l, nb k 536870912) → nb s 1503238553 → nb (s * w - p) (4 * w) →
    serHb z h s l = h
  | [], h, s, p, w, hw, _, hs, he => rfl
  | k :: l, h, s, p, w, hw, hk, hs, he => by
    have hk0 := hk k (List.mem_cons_self ..)
    obtain ⟨e1, e2, e3⟩ := step hx0 hx1 hz hw (hk0.le (by omega)) hs he
    obtain ⟨z0, z1⟩ := z_bd hx0 hx1 hz
    simp only [serHb]
    rw [e1, mulH30 (⟨by omega, by omega⟩) (hs.le (by omega)), addHnb (hk0.le (by omega)) (e2.le (by omega)), Bool.or_false, Bool.or_false]
    refine serH_ok hx0 hx1 hz l h _ _ _ (by omega) (fun j hj => hk j (List.mem_cons_of_mem _ hj)) ?_ e3
    unfold nb at *; omega
theorem serH_app (z : Int) (k : Int) : ∀ (l : List Int) (h : Bool) (s : Int), serHb z h s (l ++ [k]) = (serHb z h s l || mulH z (serV z s l) 30 || faddH [k, mulV z (serV z s l) 30])
  | [], h, s => rfl
  | j :: l, h, s => by simp only [List.cons_append, serHb, serV]; exact serH_app z k l _ _
theorem serH_all {z x2 a : Int} {l : List Int} {h : Bool} (hx0 : 0 ≤ x2) (hx1 : x2 ≤ 711180000000000000) (hz : nb (2 * (z * 1073741824 - x2)) 1073741824) (ha : nb a 536870912) (hk : ∀ k ∈ l, nb k 536870912) :
    serHb z h a (l ++ [1073741824]) = h := by
  obtain ⟨b0, b1, b2⟩ := ser_err hx0 hx1 hz l a a 1 (by omega) hk (ha.le (by omega)) (by unfold nb; omega)
  obtain ⟨e1, e2, e3⟩ := step hx0 hx1 hz b2 (show nb 1073741824 1073741824 by unfold nb; omega) b0 b1
  obtain ⟨z0, z1⟩ := z_bd hx0 hx1 hz
  rw [serH_app, serH_ok hx0 hx1 hz l h a a 1 (by omega) hk (ha.le (by omega)) (by unfold nb; omega), mulH30 (⟨by omega, by omega⟩) (b0.le (by omega)), addHnb (by unfold nb; omega) (e2.le (by omega)), Bool.or_false, Bool.or_false]
theorem sinSH_ok {x : Int} {h : Bool} (hx : nb x 843314857) : sinSH x h = h := by
  obtain ⟨q0, q1⟩ := sqx_bd hx
  have hz := mul30 (hx.le (show (843314857 : Int) ≤ 4294967296 by omega)) (hx.le (show (843314857 : Int) ≤ 4294967296 by omega))
  have hl : sL1 = [2959, -213044, 8947849, -178956971] ++ [1073741824] := rfl
  obtain ⟨a0, a1, -⟩ := ser_all (a := -27) (l := [2959, -213044, 8947849, -178956971]) q0 q1 hz (by unfold nb; omega) (by unfold nb; simp)
  have hs := serH_all (a := -27) (l := [2959, -213044, 8947849, -178956971]) (h := h) q0 q1 hz (by unfold nb; omega) (by unfold nb; simp)
  rw [← hl] at a0 hs
  unfold sinSH
  rw [mulH30 (hx.le (by omega)) (hx.le (by omega)), Bool.or_false, hs, mulH30 (hx.le (by omega)) (a0.le (by omega)), Bool.or_false]
theorem sinGH_ok {x : Int} {h : Bool} (hx : nb x 843314857) : sinGH x h = h := by
  obtain ⟨q0, q1⟩ := sqx_bd hx
  have hz := mul30 (hx.le (show (843314857 : Int) ≤ 4294967296 by omega)) (hx.le (show (843314857 : Int) ≤ 4294967296 by omega))
  have hl : sL2 = [-296, 26631, -1491308, 44739243, -536870912] ++ [1073741824] := rfl
  have hs := serH_all (a := 2) (l := [-296, 26631, -1491308, 44739243, -536870912]) (h := h) q0 q1 hz (by unfold nb; omega) (by unfold nb; simp)
  rw [← hl] at hs
  unfold sinGH
  rw [mulH30 (hx.le (by omega)) (hx.le (by omega)), Bool.or_false, hs]
theorem sinFH_ok {w : Int} {h : Bool} (hw : nb w 1686629713) : sinFH w h = h := by
  have hf := fabs_sm (hw.le (show (1686629713 : Int) ≤ 1152921504606846975 by omega))
  unfold sinFH
  by_cases c : fabsV w ≤ 843314857
  · rw [decide_eq_true c, cond_true]
    refine sinSH_ok ?_
    rw [hf] at c; unfold nb; split at c <;> omega
  · rw [decide_eq_false c, cond_false]
    refine sinGH_ok ?_
    unfold sinX
    rw [hf] at c ⊢
    unfold nb at *
    by_cases n : w < 0
    · rw [if_pos n] at c ⊢; rw [wr_i, w64_in (by omega) (by omega)]; omega
    · rw [if_neg n] at c ⊢; rw [wr_i, w64_in (by omega) (by omega)]; omega
theorem sinH_ok {a : Int} {h : Bool} (ha : nb a 1152921504606846976) : sinH a h = h := by
  unfold nb at ha
  obtain ⟨b0, b1, -⟩ := wrap_spec a
  unfold sinH
  rw [satH_in (by omega) (by omega), Bool.or_false]
  refine sinFH_ok ?_
  unfold sinW
  rw [sat_in (a := a) (by omega) (by omega)]
  unfold nb
  by_cases c : wrapV a > 1686629713
  · rw [decide_eq_true c, cond_true, wr_i, w64_in (by omega) (by omega)]; omega
  · rw [decide_eq_false c, cond_false]
    by_cases d : wrapV a < -1686629713
    · rw [decide_eq_true d, cond_true, wr_i, w64_in (by omega) (by omega)]; omega
    · rw [decide_eq_false d, cond_false]; omega
theorem cosH_ok {a : Int} {h : Bool} : cosH a h = h := by
  obtain ⟨b0, b1, j, hj⟩ := wrap_spec a
  unfold cosH
  have e : wr IntKind.i64 (1686629713 + wrapV a) = 1686629713 + wrapV a := w64_in (by omega) (by omega)
  rw [e]
  exact sinH_ok (by unfold nb; omega)
theorem divH30 {v u : Int} (hv : nb v 576460752303423488) (hu : nb u 1152921504606846976) (hq : nb (divV (v * 1073741824) u) 1152921504606846976) (hu0 : u ≠ 0) : divPH v u 30 = false := by
  unfold nb at *
  unfold divPH byH
  have e : pow2 (Int.toNat 30) = 1073741824 := rfl
  rw [e, sat_in (a := v) (by omega) (by omega), sat_in (a := u) (by omega) (by omega), satH_in (a := v) (by omega) (by omega), satH_in (a := u) (by omega) (by omega), satH_in (a := divV (v * 1073741824) u) (by omega) (by omega)]
  have : (u == 0) = false := by simpa using hu0
  rw [this]; decide
/-- An angle's flag stays. -/
theorem atanH_ok {y x : Int} {h : Bool} (hy : nb y 576460752303423488) (hx : nb x 576460752303423488) : atanH y x h = h := by
  obtain ⟨e1, e2⟩ := mnB_eq hy hx
  have sy : satH y = false := by unfold nb at hy; exact satH_in (by omega) (by omega)
  have sx : satH x = false := by unfold nb at hx; exact satH_in (by omega) (by omega)
  unfold atanH
  rw [sy, sx, Bool.or_false, Bool.or_false]
  by_cases hz : mxV y x = 0
  · rw [cond_t (by simpa using hz)]
  · rw [cond_f (by simpa using hz)]
    have hne : y ≠ 0 ∨ x ≠ 0 := by
      rcases Int.lt_trichotomy y 0 with k | k | k
      · exact .inl (by omega)
      · rcases Int.lt_trichotomy x 0 with l | l | l
        · exact .inr (by omega)
        · exfalso; apply hz; rw [e2, k, l]; rfl
        · exact .inr (by omega)
      · exact .inl (by omega)
    obtain ⟨b0, b1, b2, b3⟩ := mB_bd hy hx hne
    obtain ⟨q1, q2, q3⟩ := divq' b0 b1 b2 (by omega)
    have et : t0V y x = quoR (mnB y x * 1073741824) (mxB y x) := by unfold t0V; rw [e1, e2, q1]
    have hd0 : divPH (mnV y x) (mxV y x) 30 = false := by
      rw [e1, e2]
      refine divH30 (by unfold nb; omega) (by unfold nb; omega) ?_ (by omega)
      rw [div_pos (by omega) (by omega)]; unfold nb; omega
    rw [et]
    unfold atanHB
    rw [et, hd0, Bool.or_false]
    generalize quoR (mnB y x * 1073741824) (mxB y x) = t at *
    have key : ∀ q : Int, nb q 444758427 → (serHb (mulV q q 30) (h || mulH q q 30) (-46684427) atL || mulH q (serV (mulV q q 30) (-46684427) atL) 30) = h := by
      intro q hq
      have h2 := hq.mul hq
      have q0 : 0 ≤ q * q := by
        rcases Int.le_total 0 q with k | k
        · exact Int.mul_nonneg k k
        · exact Int.mul_nonneg_of_nonpos_of_nonpos k k
      have q1 : q * q ≤ 197810058387514329 := by unfold nb at h2; omega
      have hz := mul30 (hq.le (show (444758427 : Int) ≤ 4294967296 by omega)) (hq.le (show (444758427 : Int) ≤ 4294967296 by omega))
      have hl : atL = [51130563, -56512728, 63161284, -71582788, 82595525, -97612893, 119304647, -153391689, 214748365, -357913941] ++ [1073741824] := rfl
      have hk : ∀ k ∈ [51130563, -56512728, 63161284, -71582788, 82595525, -97612893, 119304647, -153391689, 214748365, -357913941], nb k 536870912 := by unfold nb; simp
      obtain ⟨a0, a1, -⟩ := ser_all (a := -46684427) q0 (by omega) hz (by unfold nb; omega) hk
      have hs := serH_all (a := -46684427) (h := h) q0 (by omega) hz (by unfold nb; omega) hk
      rw [← hl] at a0 hs
      rw [mulH30 (hq.le (by omega)) (hq.le (by omega)), Bool.or_false, hs, mulH30 (hq.le (by omega)) (a0.le (by omega)), Bool.or_false]
    by_cases hb : t > 444758426
    · rw [decide_eq_true hb]
      obtain ⟨p0, p1, p2⟩ := tt_ok (t := t) (by omega) q3
      have ed : divPH (wr IntKind.i64 (t - 1073741824)) (wr IntKind.i64 (t + 1073741824)) 30 = false := by
        have w1 : wr IntKind.i64 (t - 1073741824) = t - 1073741824 := w64_in (by omega) (by omega)
        have w2 : wr IntKind.i64 (t + 1073741824) = t + 1073741824 := w64_in (by omega) (by omega)
        rw [w1, w2]
        refine divH30 (by unfold nb; omega) (by unfold nb; omega) ?_ (by omega)
        have ev : ttV true t = satV (divV ((t - 1073741824) * 1073741824) (t + 1073741824)) := by
          show divPV (wr IntKind.i64 (t - 1073741824)) (wr IntKind.i64 (t + 1073741824)) 30 = _
          rw [w1, w2]
          have e : pow2 (Int.toNat 30) = 1073741824 := rfl
          unfold divPV byV
          rw [if_neg (by decide), if_neg (by decide), e, sat_in (a := t - 1073741824) (by omega) (by omega), sat_in (a := t + 1073741824) (by omega) (by omega), if_neg (by omega)]
        rw [ev] at p0 p1
        have : satV (divV ((t - 1073741824) * 1073741824) (t + 1073741824)) = divV ((t - 1073741824) * 1073741824) (t + 1073741824) := by
          generalize divV ((t - 1073741824) * 1073741824) (t + 1073741824) = d at *
          unfold satV clampV at *
          (repeat' split at p0) <;> (repeat' split at p1) <;> (repeat' split) <;> omega
        rw [this] at p0 p1
        unfold nb; omega
      simp only [cond_true]
      rw [ed, Bool.or_false]
      exact key _ (by unfold nb; omega)
    · rw [decide_eq_false hb]
      exact key t (by unfold nb; omega)
end Go.Proofs.Ytaebmggjhjobnaa

/- The laws of sines, cosines and angles, in plain numbers. -/
namespace Go.Proofs.Ytaebmggjhjobnaa
open Go.Lr Go.Tg
set_option linter.unusedVariables false
set_option linter.unusedSimpArgs false

/-- From nought to a quarter the sine is not below nought. -/
theorem SG_nn {w : Int} (h0 : 0 ≤ w) (h1 : w ≤ 1686629713) : 0 ≤ SG w := by
  have e : SG w = sinF w := by
    unfold SG
    rw [wrap_unique (a := w) (w := w) (k := 0) (by omega) (by omega) (by omega)]
    congr 1
    unfold foldV; (repeat' split) <;> omega
  have hf := fabs_sm (w := w) (by unfold nb; omega)
  rw [if_neg (by omega)] at hf
  rw [e]
  unfold sinF
  rw [hf]
  have mmn : ∀ s : Int, 0 ≤ s → 0 ≤ mmV s := by intro s hs; rw [mm_def]; (repeat' split) <;> omega
  by_cases c : w ≤ 843314857
  · rw [decide_eq_true c, cond_true]
    refine mmn _ ?_
    have hx : nb w 843314857 := by unfold nb; omega
    obtain ⟨q0, q1⟩ := sqx_bd hx
    have hz := mul30 (hx.le (show (843314857 : Int) ≤ 4294967296 by omega)) (hx.le (show (843314857 : Int) ≤ 4294967296 by omega))
    have hk : ∀ k ∈ [2959, -213044, 8947849, -178956971], nb k 536870912 := by unfold nb; simp
    obtain ⟨b0, b1, b2⟩ := ser_err q0 q1 hz [2959, -213044, 8947849, -178956971] (-27) (-27) 1 (by omega) hk (by unfold nb; omega) (by unfold nb; omega)
    obtain ⟨e1, e2, e3⟩ := step q0 q1 hz b2 (show nb 1073741824 1073741824 by unfold nb; omega) b0 b1
    have hs := ser_app (mulV w w 30) 1073741824 [2959, -213044, 8947849, -178956971] (-27)
    rw [e1] at hs
    unfold sinS0
    rw [show sL1 = [2959, -213044, 8947849, -178956971] ++ [1073741824] from rfl, hs]
    generalize mulV (mulV w w 30) (serV (mulV w w 30) (-27) [2959, -213044, 8947849, -178956971]) 30 = m at *
    have hS : nb (1073741824 + m) 2001141824 := by unfold nb at *; omega
    have hm := mul30 (hx.le (show (843314857 : Int) ≤ 4294967296 by omega)) (hS.le (show (2001141824 : Int) ≤ 4294967296 by omega))
    have := Int.mul_nonneg h0 (show 0 ≤ 1073741824 + m by unfold nb at e2; omega)
    unfold nb at hm; omega
  · rw [decide_eq_false c, cond_false, decide_eq_false (show ¬ w < 0 by omega)]
    refine mmn _ ?_
    have ex : sinX w = 1686629713 - w := by unfold sinX; rw [hf, wr_i, w64_in (by omega) (by omega)]
    rw [ex]
    have hx : nb (1686629713 - w) 843314857 := by unfold nb; omega
    generalize 1686629713 - w = x at *
    obtain ⟨q0, q1⟩ := sqx_bd hx
    have hz := mul30 (hx.le (show (843314857 : Int) ≤ 4294967296 by omega)) (hx.le (show (843314857 : Int) ≤ 4294967296 by omega))
    have hk : ∀ k ∈ [-296, 26631, -1491308, 44739243, -536870912], nb k 536870912 := by unfold nb; simp
    obtain ⟨b0, b1, b2⟩ := ser_err q0 q1 hz [-296, 26631, -1491308, 44739243, -536870912] 2 2 1 (by omega) hk (by unfold nb; omega) (by unfold nb; omega)
    obtain ⟨e1, e2, e3⟩ := step q0 q1 hz b2 (show nb 1073741824 1073741824 by unfold nb; omega) b0 b1
    have hs := ser_app (mulV x x 30) 1073741824 [-296, 26631, -1491308, 44739243, -536870912] 2
    rw [e1] at hs
    show 0 ≤ serV (mulV x x 30) 2 sL2
    rw [show sL2 = [-296, 26631, -1491308, 44739243, -536870912] ++ [1073741824] from rfl, hs]
    unfold nb at e2; omega
theorem Sp_low {w : Int} (h0 : 0 ≤ w) (h1 : w ≤ 1686629713) : -(6 * MN) ≤ 1073741824 * Sp w := by
  have h := SG_err (w := w) (by unfold nb; omega)
  have n := SG_nn h0 h1
  have := Int.mul_nonneg (Int.le_of_lt MN_pos) n
  unfold nb at h
  generalize MN * SG w = X at *
  have := MN_pos
  omega
theorem Cp_low {w : Int} (h : nb w 1686629713) : -(6 * MN) ≤ 1073741824 * Cp w := by
  have e := CG_err h
  have n : 0 ≤ CG w := by
    unfold nb at h
    rcases Int.le_total 0 w with k | k
    · have := SG_nn (w := 1686629713 - w) (by omega) (by omega)
      rw [SG_co] at this; exact this
    · have := SG_nn (w := 1686629713 + w) (by omega) (by omega)
      unfold CG; exact this
  have := Int.mul_nonneg (Int.le_of_lt MN_pos) n
  unfold nb at e
  generalize MN * CG w = X at *
  have := MN_pos
  omega
theorem chk12 : leB (1073741824 * lip sinL 1700000000) (3 * MN) = true := by kernel_rfl
theorem nn_prod {M a b : Int} (hM : 0 < M) (ha : -(6 * M) ≤ 1073741824 * a) (ha1 : 1073741824 * a ≤ 1073741900 * M) (hb : -(6 * M) ≤ 1073741824 * b) (hb1 : 1073741824 * b ≤ 1073741900 * M) : -(7 * (M * M)) ≤ 1073741824 * (a * b) := by
  have hMM : 0 ≤ M * M := Int.mul_nonneg (by omega) (by omega)
  have h1 := Int.mul_nonneg (show 0 ≤ 1073741824 * a + 6 * M by omega) (show 0 ≤ 1073741824 * b + 6 * M by omega)
  have e1 : (1073741824 * a + 6 * M) * (1073741824 * b + 6 * M) = 1152921504606846976 * (a * b) + 6442450944 * (M * a) + 6442450944 * (M * b) + 36 * (M * M) := by grind
  have h2 := Int.mul_le_mul_of_nonneg_left ha1 (show 0 ≤ M by omega)
  have h3 := Int.mul_le_mul_of_nonneg_left hb1 (show 0 ≤ M by omega)
  have e2 : M * (1073741824 * a) = 1073741824 * (M * a) := by grind
  have e3 : M * (1073741824 * b) = 1073741824 * (M * b) := by grind
  have e4 : M * (1073741900 * M) = 1073741900 * (M * M) := by grind
  -- a b is below nought for opposite signs alone
  rcases Int.le_total 0 a with k | k
  · rcases Int.le_total 0 b with l | l
    · have := Int.mul_nonneg k l; omega
    · have h4 := Int.mul_nonneg k (show 0 ≤ 1073741824 * b + 6 * M by omega)
      have e5 : a * (1073741824 * b + 6 * M) = 1073741824 * (a * b) + 6 * (M * a) := by grind
      rw [e5] at h4; rw [e2, e4] at h2
      omega
  · rcases Int.le_total 0 b with l | l
    · have h4 := Int.mul_nonneg l (show 0 ≤ 1073741824 * a + 6 * M by omega)
      have e5 : b * (1073741824 * a + 6 * M) = 1073741824 * (a * b) + 6 * (M * b) := by grind
      rw [e5] at h4; rw [e3, e4] at h3
      omega
    · have := Int.mul_nonneg_of_nonpos_of_nonpos k l; omega
theorem up_bd {M s : Int} (hM : 0 < M) (h : nb (2199023255552 * s) (2199023255553 * M)) : 1073741824 * s ≤ 1073741900 * M := by unfold nb at h; omega
/-- The sine rises. -/
theorem rise {a b : Int} (h0 : -1686629713 ≤ a) (h1 : b ≤ 1686629713) (hab : a ≤ b) : SG a ≤ SG b + 64 := by
  have hM := MN_pos
  have hm : ∃ m h : Int, m + h = b ∧ (m - h = a ∨ m - h = a - 1) ∧ 0 ≤ h ∧ h ≤ 1686629713 ∧ -1686629713 ≤ m ∧ m ≤ 1686629713 := ⟨(a + b) / 2, b - (a + b) / 2, by omega, by omega, by omega, by omega, by omega, by omega⟩
  obtain ⟨m, h, e1, e2, g0, g1, g2, g3⟩ := hm
  have mn : nb m 1700000000 := by unfold nb; omega
  have hn : nb h 1700000000 := by unfold nb; omega
  have s1 := add_s mn hn
  have s2 := add_s mn hn.neg
  rw [Cp_neg, Sp_neg, e1] at *
  have p := nn_prod hM (Cp_low (w := m) (by unfold nb; omega)) (up_bd hM (Cp_one mn)) (Sp_low g0 g1) (up_bd hM (Sp_one hn))
  have ea := SG_err (w := a) (by unfold nb; omega)
  have eb := SG_err (w := b) (by unfold nb; omega)
  have hl : nb (1073741824 * (Sp (m + -h) - Sp a)) (3 * MN) := by
    have l := nb.of (pv_lip (x := m + -h) (y := a) (R := 1700000000) (d := 1) (by omega) (by omega) (by omega) sinL)
    have c := leB_le chk12
    change nb (Sp (m + -h) - Sp a) (1 * lip sinL 1700000000) at l
    generalize Sp (m + -h) - Sp a = D at *
    generalize lip sinL 1700000000 = L at *
    unfold nb at *
    omega
  -- the reference's sines
  have key : -(20 * MN) ≤ 1073741824 * (Sp b - Sp (m + -h)) := by
    have e : MN * (Sp b - Sp (m + -h)) = 2 * (Cp m * Sp h) - (Sp m * Cp h + Cp m * Sp h - MN * Sp b) + (Sp m * Cp h + Cp m * -Sp h - MN * Sp (m + -h)) := by grind
    refine Int.le_of_mul_le_mul_left ?_ hM
    have e3 : MN * -(20 * MN) = -(20 * (MN * MN)) := by grind
    have e4 : MN * (1073741824 * (Sp b - Sp (m + -h))) = 1073741824 * (MN * (Sp b - Sp (m + -h))) := by grind
    rw [e3, e4, e]
    have hMM : 0 ≤ MN * MN := Int.mul_nonneg (by omega) (by omega)
    unfold nb at s1 s2
    generalize Sp m * Cp h + Cp m * Sp h - MN * Sp b = A at *
    generalize Sp m * Cp h + Cp m * -Sp h - MN * Sp (m + -h) = B at *
    generalize Cp m * Sp h = P at *
    generalize MN * MN = MM at *
    omega
  rcases Int.lt_or_le (SG b + 64) (SG a) with g | g
  · exfalso
    have := Int.mul_le_mul_of_nonneg_left (show SG b + 65 ≤ SG a by omega) (show 0 ≤ MN by omega)
    rw [show MN * (SG b + 65) = MN * SG b + 65 * MN by grind] at this
    unfold nb at *
    generalize MN * SG a = X at *
    generalize MN * SG b = Y at *
    generalize Sp (m + -h) = sm at *
    generalize Sp a = sa at *
    generalize Sp b = sb at *
    generalize MN = M at *
    omega
  · exact g
theorem fall {a b : Int} (h0 : 0 ≤ a) (h1 : b ≤ 1686629713) (hab : a ≤ b) : CG b ≤ CG a + 64 := by
  have := rise (a := 1686629713 - b) (b := 1686629713 - a) (by omega) (by omega) (by omega)
  rw [SG_co, SG_co] at this
  exact this
/-- A sum of two products. -/
theorem dot2 {x0 x1 y0 y1 : Int} (a0 : nb x0 4294967296) (a1 : nb x1 4294967296) (b0 : nb y0 4294967296) (b1 : nb y1 4294967296) :
    nb (2 * (dotV 30 [x0, x1] [y0, y1] * 1073741824 - (x0 * y0 + x1 * y1))) 1073741824 ∧ dotH 30 [x0, x1] [y0, y1] = false := by
  have m0 := a0.mul b0
  have m1 := a1.mul b1
  unfold nb at a0 a1 b0 b1 m0 m1
  have e : dotS [x0, x1] [y0, y1] = x0 * y0 + x1 * y1 := by
    simp only [dotS]
    rw [sat_in (a := x0) (by omega) (by omega), sat_in (a := x1) (by omega) (by omega), sat_in (a := y0) (by omega) (by omega), sat_in (a := y1) (by omega) (by omega)]
    omega
  have f : dotFl [x0, x1] [y0, y1] = false := by
    simp only [dotFl]
    rw [satH_in (a := x0) (by omega) (by omega), satH_in (a := x1) (by omega) (by omega), satH_in (a := y0) (by omega) (by omega), satH_in (a := y1) (by omega) (by omega)]
    rfl
  have hb := rnd_bd (x0 * y0 + x1 * y1) 30
  rw [show pow2 30 = 1073741824 from rfl] at hb
  have g : rndS (x0 * y0 + x1 * y1) 30 = rndV (x0 * y0 + x1 * y1) 30 ∧ rndH (x0 * y0 + x1 * y1) 30 = false := by
    unfold rndS rndH
    rw [if_neg (by decide), if_neg (by decide), show Int.toNat 30 = 30 from rfl, sat_in (by omega) (by omega), satH_in (by omega) (by omega)]
    exact ⟨rfl, by decide⟩
  constructor
  · show nb (2 * (rndS (dotS [x0, x1] [y0, y1]) 30 * 1073741824 - (x0 * y0 + x1 * y1))) 1073741824
    rw [e, g.1]; exact hb
  · show (dotFl [x0, x1] [y0, y1] || rndH (dotS [x0, x1] [y0, y1]) 30) = false
    rw [e, f, g.2]; rfl
theorem sums_s (a b : Int) : nb (dotV 30 [SG a, CG a] [CG b, SG b] - SG (a + b)) 29 := by
  obtain ⟨d, -⟩ := dot2 ((SG_bd a).le (show (1073741824 : Int) ≤ 4294967296 by omega)) ((CG_bd a).le (show (1073741824 : Int) ≤ 4294967296 by omega)) ((CG_bd b).le (show (1073741824 : Int) ≤ 4294967296 by omega)) ((SG_bd b).le (show (1073741824 : Int) ≤ 4294967296 by omega))
  have h := (sum_all a b).2
  unfold nb at *; omega
theorem sums_c (a b : Int) : nb (dotV 30 [CG a, -SG a] [CG b, SG b] - CG (a + b)) 29 := by
  obtain ⟨d, -⟩ := dot2 ((CG_bd a).le (show (1073741824 : Int) ≤ 4294967296 by omega)) ((SG_bd a).neg.le (show (1073741824 : Int) ≤ 4294967296 by omega)) ((CG_bd b).le (show (1073741824 : Int) ≤ 4294967296 by omega)) ((SG_bd b).le (show (1073741824 : Int) ≤ 4294967296 by omega))
  have h := (sum_all a b).1
  rw [Int.neg_mul] at d
  unfold nb at *; omega
theorem circle (a : Int) : nb (dotV 30 [SG a, CG a] [SG a, CG a] - 1073741824) 29 ∧ dotH 30 [SG a, CG a] [SG a, CG a] = false := by
  obtain ⟨d, f⟩ := dot2 ((SG_bd a).le (show (1073741824 : Int) ≤ 4294967296 by omega)) ((CG_bd a).le (show (1073741824 : Int) ≤ 4294967296 by omega)) ((SG_bd a).le (show (1073741824 : Int) ≤ 4294967296 by omega)) ((CG_bd a).le (show (1073741824 : Int) ≤ 4294967296 by omega))
  have h := on_circle a
  refine ⟨?_, f⟩
  unfold nb at *; omega
/-- Beyond a quarter the cosine is not above nought. -/
theorem CG_np {w : Int} (h0 : 1686629713 < w ∨ w < -1686629713) (h : nb w 3373259426) : CG w ≤ 0 := by
  have key : ∀ v : Int, 1686629713 < v → v ≤ 3373259426 → CG v ≤ 0 := by
    intro v v0 v1
    have e := CG_half v
    have n := SG_nn (w := 1686629713 - (3373259426 - v)) (by omega) (by omega)
    rw [SG_co] at n
    omega
  unfold nb at h
  rcases h0 with h0 | h0
  · exact key w h0 (by omega)
  · have := key (-w) (by omega) (by omega)
    rwa [CG_neg] at this
/-- An angle whose sine is small, and whose cosine is above nought, is small. -/
theorem ang_small {w w0 K : Int} (h : nb w 3373259426) (hc : 0 < CG w) (hs : nb (SG w) K) (e : SG w0 = w0) (h0 : 0 ≤ w0) (h1 : w0 ≤ 1686629713) (hK : K + 64 < w0) : nb w w0 := by
  have hq : nb w 1686629713 := by
    rcases Int.lt_or_le 1686629713 w with k | k
    · have := CG_np (.inl k) h; omega
    · rcases Int.lt_or_le w (-1686629713) with l | l
      · have := CG_np (.inr l) h; omega
      · exact ⟨l, k⟩
  unfold nb at hq hs
  constructor
  · rcases Int.lt_or_le w (-w0) with k | k
    · exfalso
      have := rise (a := w0) (b := -w) (by omega) (by omega) (by omega)
      rw [SG_neg, e] at this
      omega
    · exact k
  · rcases Int.lt_or_le w0 w with k | k
    · exfalso
      have := rise (a := w0) (b := w) (by omega) (by omega) (by omega)
      rw [e] at this
      omega
    · exact k
theorem big_side {s k : Int} (h : 1000000000000000000 ≤ k * k + s * s) (hs : nb s 1073741824) (hk : nb k 1073741824) : 700000000 ≤ mxB s k ∧ mxB s k ≤ 1073741824 := by
  have hu : nb s (mxB s k) ∧ nb k (mxB s k) := by
    unfold mxB absV nb; (repeat' split) <;> omega
  have h1 : mxB s k ≤ 1073741824 := by unfold nb at hs hk; unfold mxB absV; (repeat' split) <;> omega
  refine ⟨?_, h1⟩
  generalize mxB s k = u at *
  obtain ⟨a, b⟩ := hu
  have a2 := (a.mul a).2
  have b2 := (b.mul b).2
  rcases Int.lt_or_le u 700000000 with g | g
  · exfalso
    have u0 : 0 ≤ u := by unfold nb at a; omega
    have : u * u ≤ 699999999 * 699999999 := Int.mul_le_mul (by omega) (by omega) u0 (by omega)
    omega
  · exact g
theorem CG_wrap (a : Int) : CG (wrapV a) = CG a := by
  obtain ⟨b0, b1, k, hk⟩ := wrap_spec a
  unfold CG
  rw [← SG_per (1686629713 + wrapV a) k]
  congr 1; omega
/-- Where a point near the circle at the angle a lies: at a. -/
theorem back_ang {a y x E K w0 : Int} (ey : nb (y - SG a) E) (ex : nb (x - CG a) E) (hE0 : 0 ≤ E) (hE : E ≤ 1000000) (hK : 111 + 2 * E ≤ K) (e : SG w0 = w0) (h0 : 0 ≤ w0) (h1 : w0 ≤ 1686629713) (hw : K + 64 < w0) :
    nb (wrapV (atanV y x - a)) w0 := by
  have sa := SG_bd a
  have ca := CG_bd a
  have oc := on_circle a
  obtain ⟨u0, u1⟩ := big_side (s := SG a) (k := CG a) (by unfold nb at oc; omega) sa ca
  have hy : nb y 1074741824 := by unfold nb at *; omega
  have hx : nb x 1074741824 := by unfold nb at *; omega
  have v0 : 699000000 ≤ mxB y x ∧ mxB y x ≤ 1074741824 := by
    unfold nb at *
    unfold mxB absV at *
    (repeat' split at u0) <;> (repeat' split) <;> omega
  have hne : y ≠ 0 ∨ x ≠ 0 := by
    rcases Int.lt_trichotomy y 0 with k | k | k
    · exact .inl (by omega)
    · rcases Int.lt_trichotomy x 0 with l | l | l
      · exact .inr (by omega)
      · exfalso; rw [k, l] at v0; have : mxB 0 0 = 0 := by decide
        omega
      · exact .inr (by omega)
    · exact .inl (by omega)
  obtain ⟨d1, d2⟩ := atan_dir (hy.le (by omega)) (hx.le (by omega)) hne
  obtain ⟨f1, f2⟩ := dif_all a (atanV y x)
  have w1 : wrapV (atanV y x - a) = wrapV (atanV y x - a) := rfl
  obtain ⟨b0, b1, -⟩ := wrap_spec (atanV y x - a)
  have es : SG (wrapV (atanV y x - a)) = -SG (a - atanV y x) := by rw [SG_wrap, ← SG_neg]; congr 1; omega
  have ec : CG (wrapV (atanV y x - a)) = CG (a - atanV y x) := by rw [CG_wrap, ← CG_neg]; congr 1; omega
  generalize wrapV (atanV y x - a) = w at *
  generalize atanV y x = r at *
  have sr := SG_bd r
  have cr := CG_bd r
  have p1 := ey.mul cr
  have p2 := ex.mul sr
  have p3 := ex.mul cr
  have p4 := ey.mul sr
  have g1 : SG a * CG r - CG a * SG r = (y * CG r - x * SG r) - (y - SG a) * CG r + (x - CG a) * SG r := by grind
  have g2 : CG a * CG r + SG a * SG r = (x * CG r + y * SG r) - (x - CG a) * CG r - (y - SG a) * SG r := by grind
  rw [g1] at f2
  rw [g2] at f1
  refine ang_small (K := K) (w0 := w0) (by unfold nb; omega) ?_ ?_ e h0 h1 hw
  · rw [ec]
    unfold nb at f1 p3 p4
    generalize (x - CG a) * CG r = A at *
    generalize (y - SG a) * SG r = B at *
    generalize x * CG r + y * SG r = D at *
    omega
  · rw [es]
    refine nb.neg ?_
    unfold nb at f2 p1 p2 d1 ⊢
    generalize (y - SG a) * CG r = A at *
    generalize (x - CG a) * SG r = B at *
    generalize y * CG r - x * SG r = D at *
    omega

/-- The angle of a sine. -/
theorem atan_pos {y x : Int} (hy : nb y 576460752303423488) (hx : nb x 576460752303423488) (y0 : 0 < y) (x0 : 0 < x) (hd : mxB y x ≤ 2000000000) : 0 < atanV y x := by
  obtain ⟨b0, b1, b2, b3⟩ := mB_bd hy hx (.inl (by omega))
  obtain ⟨q1, q2, q3⟩ := divq' b0 b1 b2 (by omega)
  obtain ⟨-, c0, c1, c2, -⟩ := core_dir q2 q3
  have hb := quo_bd (a := mnB y x * 1073741824) (b := mxB y x) (by omega) (by omega)
  have hm : 1 ≤ mnB y x := by unfold mnB absV; (repeat' split) <;> omega
  have hq : 0 < quoR (mnB y x * 1073741824) (mxB y x) := by
    rcases Int.lt_or_le 0 (quoR (mnB y x * 1073741824) (mxB y x)) with g | g
    · exact g
    · exfalso
      have e0 : quoR (mnB y x * 1073741824) (mxB y x) = 0 := by omega
      rw [e0] at hb
      omega
  rw [atanV_eq hy hx (.inl (by omega))]
  have := c2 hq
  unfold angB
  rw [if_neg (by omega), if_neg (by omega)]
  split <;> omega
theorem atan_odd {y x : Int} (hy : nb y 576460752303423488) (hx : nb x 576460752303423488) (y0 : y < 0) : atanV y x = -atanV (-y) x := by
  rw [atanV_eq hy hx (.inl (by omega)), atanV_eq hy.neg hx (.inl (by omega))]
  have e1 : mnB (-y) x = mnB y x ∧ mxB (-y) x = mxB y x ∧ absV (-y) = absV y := by
    refine ⟨?_, ?_, absV_negate y⟩
    · unfold mnB; rw [absV_negate]
    · unfold mxB; rw [absV_negate]
  rw [e1.1, e1.2.1]
  unfold angB
  rw [e1.2.2, if_pos y0, if_neg (show ¬ -y < 0 by omega)]
theorem sqnn0 (a : Int) : 0 ≤ a * a := by
  rcases Int.le_total 0 a with k | k
  · exact Int.mul_nonneg k k
  · exact Int.mul_nonneg_of_nonpos_of_nonpos k k
theorem absSq (a : Int) : absV a * absV a = a * a := by rw [← absV_mul, absV_pos (sqnn0 a)]
theorem sq_bound {D A : Int} (h0 : 0 ≤ D) (hA : 0 ≤ A) (h : D * D ≤ A * A) : D ≤ A := by
  rcases Int.lt_or_le A D with g | g
  · exfalso
    have : (A + 1) * (A + 1) ≤ D * D := Int.mul_le_mul (by omega) (by omega) (by omega) h0
    have e : (A + 1) * (A + 1) = A * A + 2 * A + 1 := by grind
    omega
  · exact g
/-- A point on the circle whose angle is known. -/
theorem on_arc {a X C S : Int} (hP : nb (a * a + X * X - 1152921504606846976) 2147483648) (hR : nb (C * C + S * S - 1152921504606846976) 30064771072) (hE : nb (a * C - X * S) 88046829568) (hD : 0 ≤ X * C + a * S) (ha : nb a 1073741824) (hX : nb X 1073741826) (hS : nb S 1073741824) : nb (S - a) 200 := by
  have e1 : (X * C + a * S) * (X * C + a * S) = (a * a + X * X) * (C * C + S * S) - (a * C - X * S) * (a * C - X * S) := by grind
  have e2 : 1152921504606846976 * (S - a) = a * (X * C + a * S - 1152921504606846976) - X * (a * C - X * S) - S * (a * a + X * X - 1152921504606846976) := by grind
  have q1 := hP.mul hR
  have q2 := (hE.mul hE)
  have q0 : 0 ≤ (a * C - X * S) * (a * C - X * S) := by
    rcases Int.le_total 0 (a * C - X * S) with k | k
    · exact Int.mul_nonneg k k
    · exact Int.mul_nonneg_of_nonpos_of_nonpos k k
  have x1 := hX.mul hE
  have x2 := hS.mul hP
  have e3 : (a * a + X * X) * (C * C + S * S) = (a * a + X * X - 1152921504606846976) * (C * C + S * S - 1152921504606846976) + 1152921504606846976 * (a * a + X * X - 1152921504606846976) + 1152921504606846976 * (C * C + S * S - 1152921504606846976) + 1152921504606846976 * 1152921504606846976 := by grind
  generalize a * a + X * X - 1152921504606846976 = P at *
  generalize C * C + S * S - 1152921504606846976 = R at *
  have hd : nb (X * C + a * S - 1152921504606846976) 40802189312 := by
    generalize (a * C - X * S) * (a * C - X * S) = EE at *
    generalize (a * a + X * X) * (C * C + S * S) = PR at *
    generalize P * R = pr at *
    generalize X * C + a * S = D at *
    unfold nb at *
    constructor
    · rcases Int.lt_or_le D (1152921504606846976 - 40802189312) with g | g
      · exfalso
        have : D * D ≤ (1152921504606846976 - 40802189312) * (1152921504606846976 - 40802189312) := Int.mul_le_mul (by omega) (by omega) hD (by omega)
        omega
      · omega
    · rcases Int.lt_or_le (1152921504606846976 + 40802189312) D with g | g
      · exfalso
        have : (1152921504606846976 + 40802189312) * (1152921504606846976 + 40802189312) ≤ D * D := Int.mul_le_mul (by omega) (by omega) (by omega) (by omega)
        omega
      · omega
  have x3 := ha.mul hd
  generalize a * (X * C + a * S - 1152921504606846976) = A at *
  generalize X * (a * C - X * S) = B at *
  generalize S * P = Z at *
  unfold nb at *
  omega
/-- The other side of a sine. -/
def arcX (a : Int) : Int := sqrtV (1073741824 - mulV a a 30)
theorem arcX_ok {a : Int} (ha : nb a 1063004382) : nb (a * a + arcX a * arcX a - 1152921504606846976) 2147483648 ∧ 100000000 ≤ arcX a ∧ arcX a ≤ 1073741825 ∧ sqrtH (1073741824 - mulV a a 30) = false ∧ nb (2 * (mulV a a 30 * 1073741824 - a * a)) 1073741824 ∧ 0 ≤ mulV a a 30 ∧ mulV a a 30 ≤ 1073741824 := by
  have hm := mul30 (ha.le (show (1063004382 : Int) ≤ 4294967296 by omega)) (ha.le (show (1063004382 : Int) ≤ 4294967296 by omega))
  have h2 := (ha.mul ha).2
  have q0 : 0 ≤ a * a := by
    rcases Int.le_total 0 a with k | k
    · exact Int.mul_nonneg k k
    · exact Int.mul_nonneg_of_nonpos_of_nonpos k k
  unfold arcX
  generalize mulV a a 30 = m at *
  have m0 : 0 ≤ m ∧ m ≤ 1052375000 := by unfold nb at hm; omega
  have es : satV (1073741824 - m) = 1073741824 - m := sat_in (by omega) (by omega)
  obtain ⟨r0, r1, r2⟩ := rootW_spec (N := (1073741824 - m) * 1073741824) (by omega) (by omega)
  have hr1 : rootW ((1073741824 - m) * 1073741824) ≤ 1073741825 := root_le (by omega) (by omega) (by omega) (by omega)
  have hr0 : 100000000 ≤ rootW ((1073741824 - m) * 1073741824) := root_ge (by omega) (by omega) (.inr (by omega))
  have ev : sqrtV (1073741824 - m) = rootW ((1073741824 - m) * 1073741824) := by
    unfold sqrtV
    rw [es, if_neg (by omega), sat_in (by omega) (by omega)]
  have ef : sqrtH (1073741824 - m) = false := by
    unfold sqrtH
    rw [es, satH_in (by omega) (by omega), satH_in (a := rootW ((1073741824 - m) * 1073741824)) (by omega) (by omega), decide_eq_false (by omega)]
    rfl
  rw [ev]
  generalize rootW ((1073741824 - m) * 1073741824) = X at *
  refine ⟨?_, hr0, hr1, ef, hm, by omega, by omega⟩
  unfold nb at *
  generalize X * X = XX at *
  generalize a * a = aa at *
  omega
theorem arcs {a : Int} (ha : nb a 1063004382) : nb (SG (atanV a (arcX a)) - a) 200 ∧ (0 < a → 0 < atanV a (arcX a)) ∧ (a = 0 → atanV a (arcX a) = 0) ∧ (a < 0 → atanV a (arcX a) < 0) ∧ nb (atanV a (arcX a)) 3373259426 := by
  obtain ⟨p, x0, x1, -, -, -, -⟩ := arcX_ok ha
  generalize arcX a = X at *
  have an : nb a 576460752303423488 := ha.le (by omega)
  have xn : nb X 576460752303423488 := by unfold nb; omega
  obtain ⟨d1, d2⟩ := atan_dir an xn (.inr (by omega))
  obtain ⟨s1, s2, s3, s4, s5⟩ := atan_sg an xn (.inr (by omega))
  have hu : 0 ≤ mxB a X ∧ mxB a X ≤ 1073741825 := by unfold nb at ha; unfold mxB absV; (repeat' split) <;> omega
  refine ⟨?_, ?_, ?_, ?_, s1⟩
  · have oc := on_circle (atanV a X)
    exact on_arc p oc (d1.le (by omega)) (by omega) (ha.le (by omega)) (by unfold nb; omega) (SG_bd _)
  · intro h
    exact atan_pos an xn h (by omega) (by omega)
  · intro h
    have := s2 (by omega); have := s3 (by omega) (by omega); omega
  · intro h
    rw [atan_odd an xn h]
    have : 0 < atanV (-a) X := by
      refine atan_pos an.neg xn (by omega) (by omega) ?_
      unfold nb at ha; unfold mxB absV; (repeat' split) <;> omega
    omega
end Go.Proofs.Ytaebmggjhjobnaa

/- All summaries for the laws of chapter 4 about angles. -/
namespace Go.Proofs.Ytaebmggjhjobnaa
open Go.Lr
noncomputable def S50 : FuncId → Option SumK := more S39 20 (pureSum labsS)
theorem sound50 : Sound Try.prog S50 := sound39.more sumLabs
end Go.Proofs.Ytaebmggjhjobnaa

/- The law TrigSums: its runs, and why they answer true. -/
namespace Go.Proofs.Ytaebmggjhjobnaa
open Go.Lr Go.RowKit Go.Tg
set_option linter.unusedVariables false
set_option linter.unusedSimpArgs false

theorem tsA (a b : Int) : (runF Try.prog S50 Zl 4000 6 [I a, I b] [] 0 [none, some true, some true, some true, none, none, none, none, none, none, none]).map (fun r => (r.1, r.2.2.2)) = some (LV.v (V1.one (At.bool true)), [(decide (a < -4294967296), true), (decide (a < -4294967296), true), (decide (a < -4294967296), true)]) := by kernel_rfl
theorem tsB (a b : Int) : (runF Try.prog S50 Zl 4000 6 [I a, I b] [] 0 [none, some false, some false, some false, some true, some true, some true, none, none, none, none, none, none, none]).map (fun r => (r.1, r.2.2.2)) = some (LV.v (V1.one (At.bool true)), [(decide (a > 4294967296), true), (decide (a > 4294967296), true), (decide (a > 4294967296), true), (decide (a < -4294967296), false), (decide (a < -4294967296), false), (decide (a < -4294967296), false)]) := by kernel_rfl
theorem tsC (a b : Int) : (runF Try.prog S50 Zl 4000 6 [I a, I b] [] 0 [none, some false, some false, some false, some false, some false, some false, some true, some true, some true, none]).map (fun r => (r.1, r.2.2.2)) = some (LV.v (V1.one (At.bool true)), [(decide (b < -4294967296), true), (decide (b < -4294967296), true), (decide (b < -4294967296), true), (decide (a > 4294967296), false), (decide (a > 4294967296), false), (decide (a > 4294967296), false), (decide (a < -4294967296), false), (decide (a < -4294967296), false), (decide (a < -4294967296), false)]) := by kernel_rfl
theorem tsD (a b : Int) : (runF Try.prog S50 Zl 4000 6 [I a, I b] [] 0 [none, some false, some false, some false, some false, some false, some false, some false, some false, some false, some true]).map (fun r => (r.1, r.2.2.2)) = some (LV.v (V1.one (At.bool true)), [(decide (b > 4294967296), true), (decide (b < -4294967296), false), (decide (b < -4294967296), false), (decide (b < -4294967296), false), (decide (a > 4294967296), false), (decide (a > 4294967296), false), (decide (a > 4294967296), false), (decide (a < -4294967296), false), (decide (a < -4294967296), false), (decide (a < -4294967296), false)]) := by kernel_rfl
theorem tsE (a b : Int) : (runF Try.prog S50 Zl 4000 6 [I a, I b] [] 0 [none, some false, some false, some false, some false, some false, some false, some false, some false, some false, some false, some true, some true, some true, some true, some true, some true, some true, some true, some true, some true]).map (fun r => (r.1, r.2.2.2)) = some (LV.v (V1.one (At.bool (decide (labsV (wr IntKind.i64 (dotV 30 [cosV a, wr IntKind.i64 (0 - sinV a)] [cosV b, sinV b] - cosV (wr IntKind.i64 (a + b)))) ≤ 200)))), [(decide (labsV (wr IntKind.i64 (dotV 30 [sinV a, cosV a] [cosV b, sinV b] - sinV (wr IntKind.i64 (a + b)))) ≤ 200), true), (decide (labsV (wr IntKind.i64 (dotV 30 [sinV a, cosV a] [cosV b, sinV b] - sinV (wr IntKind.i64 (a + b)))) ≤ 200), true), (decide (labsV (wr IntKind.i64 (dotV 30 [sinV a, cosV a] [cosV b, sinV b] - sinV (wr IntKind.i64 (a + b)))) ≤ 200), true), (decide (labsV (wr IntKind.i64 (dotV 30 [sinV a, cosV a] [cosV b, sinV b] - sinV (wr IntKind.i64 (a + b)))) ≤ 200), true), (decide (labsV (wr IntKind.i64 (dotV 30 [sinV a, cosV a] [cosV b, sinV b] - sinV (wr IntKind.i64 (a + b)))) ≤ 200), true), (decide (labsV (wr IntKind.i64 (dotV 30 [sinV a, cosV a] [cosV b, sinV b] - sinV (wr IntKind.i64 (a + b)))) ≤ 200), true), (decide (labsV (wr IntKind.i64 (dotV 30 [sinV a, cosV a] [cosV b, sinV b] - sinV (wr IntKind.i64 (a + b)))) ≤ 200), true), (decide (labsV (wr IntKind.i64 (dotV 30 [sinV a, cosV a] [cosV b, sinV b] - sinV (wr IntKind.i64 (a + b)))) ≤ 200), true), (decide (labsV (wr IntKind.i64 (dotV 30 [sinV a, cosV a] [cosV b, sinV b] - sinV (wr IntKind.i64 (a + b)))) ≤ 200), true), (decide (labsV (wr IntKind.i64 (dotV 30 [sinV a, cosV a] [cosV b, sinV b] - sinV (wr IntKind.i64 (a + b)))) ≤ 200), true), (decide (b > 4294967296), false), (decide (b < -4294967296), false), (decide (b < -4294967296), false), (decide (b < -4294967296), false), (decide (a > 4294967296), false), (decide (a > 4294967296), false), (decide (a > 4294967296), false), (decide (a < -4294967296), false), (decide (a < -4294967296), false), (decide (a < -4294967296), false)]) := by kernel_rfl

theorem labs_le {x k : Int} (h : nb x k) (hk : k ≤ 4611686018427387904) : decide (labsV (wr IntKind.i64 x) ≤ k) = true := by
  unfold nb at h
  have e : wr IntKind.i64 x = x := w64_in (by omega) (by omega)
  rw [e]
  unfold labsV
  by_cases g : x < 0
  · rw [decide_eq_true g, cond_true]
    have e2 : wr IntKind.i64 (0 - x) = 0 - x := w64_in (by omega) (by omega)
    rw [e2]; simp; omega
  · rw [decide_eq_false g, cond_false]; simp; omega
theorem lawTrigSums (a b : Int) (w : World) :
    Calls Try.prog 6 ([I a, I b].map (LV.den E0)).toArray w fun e w' => e = .returned (.bool true) ∧ Below w.heap.size w w' := by
  rcases bool_cases (decide (a < -4294967296)) with c1 | c1
  · exact law_true sound50 (tsA a b) rfl (by rw [c1]; simp) rfl w
  rcases bool_cases (decide (a > 4294967296)) with c2 | c2
  · exact law_true sound50 (tsB a b) rfl (by rw [c1, c2]; simp) rfl w
  rcases bool_cases (decide (b < -4294967296)) with c3 | c3
  · exact law_true sound50 (tsC a b) rfl (by rw [c1, c2, c3]; simp) rfl w
  rcases bool_cases (decide (b > 4294967296)) with c4 | c4
  · exact law_true sound50 (tsD a b) rfl (by rw [c1, c2, c3, c4]; simp) rfl w
  have a0 : -4294967296 ≤ a := by simpa using c1
  have a1 : a ≤ 4294967296 := by simpa using c2
  have b0 : -4294967296 ≤ b := by simpa using c3
  have b1 : b ≤ 4294967296 := by simpa using c4
  have w0 : wr IntKind.i64 (a + b) = a + b := w64_in (by omega) (by omega)
  have sb := SG_bd a
  have w1 : wr IntKind.i64 (0 - sinV a) = -SG a := by rw [sinV_eq (by unfold nb; omega)]; unfold nb at sb; rw [wr_i, w64_in (by omega) (by omega)]; omega
  have hr := tsE a b
  rw [w1, w0, cosV_eq, cosV_eq, cosV_eq, sinV_eq (a := a) (by unfold nb; omega), sinV_eq (a := b) (by unfold nb; omega), sinV_eq (a := a + b) (by unfold nb; omega)] at hr
  have d1 := labs_le ((sums_s a b).le (show (29 : Int) ≤ 200 by omega)) (by omega)
  have d2 := labs_le ((sums_c a b).le (show (29 : Int) ≤ 200 by omega)) (by omega)
  refine law_true sound50 hr (by rw [d2]) ?_ rfl w
  rw [c1, c2, c3, c4, d1]
  simp

end Go.Proofs.Ytaebmggjhjobnaa
