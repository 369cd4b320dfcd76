/- Joined texts. What each part proves stands ahead of it; no condition. -/
import Derived.Test.YtdkmiliehlhmbaaLrM5
import Derived.Test.YtdkmiliehlhmbaaLrM4
import Derived.KernelRfl

/- Quaternions in both answers: their runs, against what they compute. -/
namespace Go.Proofs.Ytdkmiliehlhmbaa
open Go.Lr
set_option linter.unusedVariables false
set_option linter.unusedSimpArgs false

/-- Made one of length One, twice. -/
def uE (x a0 a1 a2 a3 : Int) : Int := divPV (divPV x (hypV [a0, a1, a2, a3]) 30) (hypV [divPV a0 (hypV [a0, a1, a2, a3]) 30, divPV a1 (hypV [a0, a1, a2, a3]) 30, divPV a2 (hypV [a0, a1, a2, a3]) 30, divPV a3 (hypV [a0, a1, a2, a3]) 30]) 30
def uM (a0 a1 a2 a3 : Int) : Int := hypV [divPV a0 (hypV [a0, a1, a2, a3]) 30, divPV a1 (hypV [a0, a1, a2, a3]) 30, divPV a2 (hypV [a0, a1, a2, a3]) 30, divPV a3 (hypV [a0, a1, a2, a3]) 30]
def uH (h : Bool) (a0 a1 a2 a3 : Int) : Bool := h || hypH [a0, a1, a2, a3] || divPH a0 (hypV [a0, a1, a2, a3]) 30 || divPH a1 (hypV [a0, a1, a2, a3]) 30 || divPH a2 (hypV [a0, a1, a2, a3]) 30 || divPH a3 (hypV [a0, a1, a2, a3]) 30 || hypH [divPV a0 (hypV [a0, a1, a2, a3]) 30, divPV a1 (hypV [a0, a1, a2, a3]) 30, divPV a2 (hypV [a0, a1, a2, a3]) 30, divPV a3 (hypV [a0, a1, a2, a3]) 30] || divPH (divPV a0 (hypV [a0, a1, a2, a3]) 30) (uM a0 a1 a2 a3) 30 || divPH (divPV a1 (hypV [a0, a1, a2, a3]) 30) (uM a0 a1 a2 a3) 30 || divPH (divPV a2 (hypV [a0, a1, a2, a3]) 30) (uM a0 a1 a2 a3) 30 || divPH (divPV a3 (hypV [a0, a1, a2, a3]) 30) (uM a0 a1 a2 a3) 30
def uZ (a0 a1 a2 a3 : Int) : Bool := satV a0 == 0 && (satV a1 == 0 && (satV a2 == 0 && (satV a3 == 0 && true)))
def uS (h : Bool) (a0 a1 a2 a3 : Int) : Bool := h || satH a0 || satH a1 || satH a2 || satH a3
def unitS : List LV → Bool → Option (LV × Bool × List (Bool × Bool))
  | [.v (.agg [.int .i64 a0, .int .i64 a1, .int .i64 a2, .int .i64 a3])], hb => some (.v (.agg [.int .i64 (bif uZ a0 a1 a2 a3 then 1073741824 else uE (satV a0) (satV a0) (satV a1) (satV a2) (satV a3)), .int .i64 (bif uZ a0 a1 a2 a3 then 0 else uE (satV a1) (satV a0) (satV a1) (satV a2) (satV a3)), .int .i64 (bif uZ a0 a1 a2 a3 then 0 else uE (satV a2) (satV a0) (satV a1) (satV a2) (satV a3)), .int .i64 (bif uZ a0 a1 a2 a3 then 0 else uE (satV a3) (satV a0) (satV a1) (satV a2) (satV a3))]),
    (bif uZ a0 a1 a2 a3 then uS hb a0 a1 a2 a3 else uH (uS hb a0 a1 a2 a3) (satV a0) (satV a1) (satV a2) (satV a3)), [])
  | _, _ => none
theorem puZ (a0 a1 a2 a3 : Int) (hb : Bool) : (runF Try.prog S34 Zl 2000 54 [A0, .v (.agg [.int .i64 a0, .int .i64 a1, .int .i64 a2, .int .i64 a3])] [(0, flag 41 hb)] 1 [some true]).map acc3 = some (.v (.agg [.int .i64 1073741824, .int .i64 0, .int .i64 0, .int .i64 0]), some (flag 41 (uS hb a0 a1 a2 a3)), [(uZ a0 a1 a2 a3, true)]) := by kernel_rfl
theorem puN (a0 a1 a2 a3 : Int) (hb : Bool) : (runF Try.prog S34 Zl 2000 54 [A0, .v (.agg [.int .i64 a0, .int .i64 a1, .int .i64 a2, .int .i64 a3])] [(0, flag 41 hb)] 1 [some false, none, none, none, none, none, none, none, none, none, none, none, none, none, none, none]).map acc3 = some (.v (.agg [.int .i64 (uE (satV a0) (satV a0) (satV a1) (satV a2) (satV a3)), .int .i64 (uE (satV a1) (satV a0) (satV a1) (satV a2) (satV a3)), .int .i64 (uE (satV a2) (satV a0) (satV a1) (satV a2) (satV a3)), .int .i64 (uE (satV a3) (satV a0) (satV a1) (satV a2) (satV a3))]), some (flag 41 (uH (uS hb a0 a1 a2 a3) (satV a0) (satV a1) (satV a2) (satV a3))), [(uZ a0 a1 a2 a3, false)]) := by kernel_rfl
theorem sumpu : SumOK Try.prog 54 (accSum 41 unitS) := by
  refine accSum_run (z := Zl) sound34 (own_of sound34 Try.func54 (by kernel_rfl)) fun args hb v h' cs hF hc => ?_
  unfold unitS at hF
  split at hF
  · rename_i a0 a1 a2 a3
    cases hF
    refine ⟨rfl, ?_⟩
    rcases bool_cases (uZ a0 a1 a2 a3) with h | h
    · rw [h]; exact ⟨2000, _, _, puZ a0 a1 a2 a3 hb, ae_cons h ae_nil⟩
    · rw [h]; exact ⟨2000, _, _, puN a0 a1 a2 a3 hb, ae_cons h ae_nil⟩
  · cases hF
theorem ruZ (a0 a1 a2 a3 : Int) (hb : Bool) (ty : TypeId) : (runF Try.prog S34 Zl 2000 29 [A0, .v (.agg [.int .i64 a0, .int .i64 a1, .int .i64 a2, .int .i64 a3])] [(0, flag ty hb)] 1 [some true]).map acc3 = some (.v (.agg [.int .i64 1073741824, .int .i64 0, .int .i64 0, .int .i64 0]), some (flag ty (uS hb a0 a1 a2 a3)), [(uZ a0 a1 a2 a3, true)]) := by kernel_rfl
theorem ruN (a0 a1 a2 a3 : Int) (hb : Bool) (ty : TypeId) : (runF Try.prog S34 Zl 2000 29 [A0, .v (.agg [.int .i64 a0, .int .i64 a1, .int .i64 a2, .int .i64 a3])] [(0, flag ty hb)] 1 [some false, none, none, none, none, none, none, none, none, none, none, none, none, none, none, none]).map acc3 = some (.v (.agg [.int .i64 (uE (satV a0) (satV a0) (satV a1) (satV a2) (satV a3)), .int .i64 (uE (satV a1) (satV a0) (satV a1) (satV a2) (satV a3)), .int .i64 (uE (satV a2) (satV a0) (satV a1) (satV a2) (satV a3)), .int .i64 (uE (satV a3) (satV a0) (satV a1) (satV a2) (satV a3))]), some (flag ty (uH (uS hb a0 a1 a2 a3) (satV a0) (satV a1) (satV a2) (satV a3))), [(uZ a0 a1 a2 a3, false)]) := by kernel_rfl
theorem sumru (ty : TypeId) : SumOK Try.prog 29 (accSum ty unitS) := by
  refine accSum_run (z := Zl) sound34 (own_of sound34 Try.func29 (by kernel_rfl)) fun args hb v h' cs hF hc => ?_
  unfold unitS at hF
  split at hF
  · rename_i a0 a1 a2 a3
    cases hF
    refine ⟨rfl, ?_⟩
    rcases bool_cases (uZ a0 a1 a2 a3) with h | h
    · rw [h]; exact ⟨2000, _, _, ruZ a0 a1 a2 a3 hb ty, ae_cons h ae_nil⟩
    · rw [h]; exact ⟨2000, _, _, ruN a0 a1 a2 a3 hb ty, ae_cons h ae_nil⟩
  · cases hF
end Go.Proofs.Ytdkmiliehlhmbaa

/- Rotations' matrices in both answers: the second answer's Of, Apply, Back in the program's words. -/
namespace Go.Proofs.Ytdkmiliehlhmbaa
open Go.Lr
set_option linter.unusedVariables false
set_option linter.unusedSimpArgs false

def inS (a : Int) : Prop := -1152921504606846976 ≤ a ∧ a ≤ 1152921504606846976
theorem inS_sat (a : Int) : inS (satV a) := sat_bd a
theorem wneg {a : Int} (h : inS a) : wr IntKind.i64 (0 - a) = -a := by
  unfold inS at h
  have := w64_in (x := 0 - a) (by omega) (by omega); rw [wr_i, this]; omega
theorem inS_neg {a : Int} (h : inS a) : inS (-a) := by unfold inS at *; omega
theorem wone {a : Int} (h : inS a) : wr IntKind.i64 (1 * a) = a := by
  unfold inS at h; rw [Int.one_mul]; exact w64_in (by omega) (by omega)
theorem wmone {a : Int} (h : inS a) : wr IntKind.i64 (-1 * a) = -a := by
  unfold inS at h
  have e : -1 * a = -a := by omega
  rw [e]; exact w64_in (by omega) (by omega)
theorem dot4 {x0 x1 x2 x3 y0 y1 y2 y3 : Int} (a0 : inS x0) (a1 : inS x1) (a2 : inS x2) (a3 : inS x3) (b0 : inS y0) (b1 : inS y1) (b2 : inS y2) (b3 : inS y3) :
    dotV 30 [x0, x1, x2, x3] [y0, y1, y2, y3] = rndS (x0 * y0 + (x1 * y1 + (x2 * y2 + (x3 * y3 + 0)))) 30 ∧ dotH 30 [x0, x1, x2, x3] [y0, y1, y2, y3] = rndH (x0 * y0 + (x1 * y1 + (x2 * y2 + (x3 * y3 + 0)))) 30 := by
  have e : dotS [x0, x1, x2, x3] [y0, y1, y2, y3] = x0 * y0 + (x1 * y1 + (x2 * y2 + (x3 * y3 + 0))) := by
    simp only [dotS]
    rw [sat_in a0.1 a0.2, sat_in a1.1 a1.2, sat_in a2.1 a2.2, sat_in a3.1 a3.2, sat_in b0.1 b0.2, sat_in b1.1 b1.2, sat_in b2.1 b2.2, sat_in b3.1 b3.2]
  have f : dotFl [x0, x1, x2, x3] [y0, y1, y2, y3] = false := by
    simp only [dotFl]
    rw [satH_in a0.1 a0.2, satH_in a1.1 a1.2, satH_in a2.1 a2.2, satH_in a3.1 a3.2, satH_in b0.1 b0.2, satH_in b1.1 b1.2, satH_in b2.1 b2.2, satH_in b3.1 b3.2]
    rfl
  refine ⟨?_, ?_⟩
  · show rndS (dotS [x0, x1, x2, x3] [y0, y1, y2, y3]) 30 = _; rw [e]
  · show (dotFl [x0, x1, x2, x3] [y0, y1, y2, y3] || rndH (dotS [x0, x1, x2, x3] [y0, y1, y2, y3]) 30) = _; rw [e, f]; rfl
theorem dot4_eq {x0 x1 x2 x3 y0 y1 y2 y3 u0 u1 u2 u3 v0 v1 v2 v3 : Int} (a0 : inS x0) (a1 : inS x1) (a2 : inS x2) (a3 : inS x3) (b0 : inS y0) (b1 : inS y1) (b2 : inS y2) (b3 : inS y3)
    (c0 : inS u0) (c1 : inS u1) (c2 : inS u2) (c3 : inS u3) (d0 : inS v0) (d1 : inS v1) (d2 : inS v2) (d3 : inS v3) (h : x0 * y0 + (x1 * y1 + (x2 * y2 + (x3 * y3 + 0))) = u0 * v0 + (u1 * v1 + (u2 * v2 + (u3 * v3 + 0)))) :
    dotV 30 [x0, x1, x2, x3] [y0, y1, y2, y3] = dotV 30 [u0, u1, u2, u3] [v0, v1, v2, v3] ∧ dotH 30 [x0, x1, x2, x3] [y0, y1, y2, y3] = dotH 30 [u0, u1, u2, u3] [v0, v1, v2, v3] := by
  obtain ⟨e1, e2⟩ := dot4 a0 a1 a2 a3 b0 b1 b2 b3
  obtain ⟨f1, f2⟩ := dot4 c0 c1 c2 c3 d0 d1 d2 d3
  rw [e1, e2, f1, f2, h]; exact ⟨rfl, rfl⟩
/-- The minus on the other list. -/
theorem t1_neg {a b d e : Int} (ha : inS a) (hb : inS b) (hd : inS d) (he : inS e) :
    dotV 30 [a, a, d, d] [b, b, wr IntKind.i64 (0 - e), wr IntKind.i64 (0 - e)] = t1V a b (wr IntKind.i64 (0 - d)) e ∧ dotH 30 [a, a, d, d] [b, b, wr IntKind.i64 (0 - e), wr IntKind.i64 (0 - e)] = t1H a b (wr IntKind.i64 (0 - d)) e := by
  unfold t1V t1H
  rw [wneg hd, wneg he]
  exact dot4_eq ha ha hd hd hb hb (inS_neg he) (inS_neg he) ha ha (inS_neg hd) (inS_neg hd) hb hb he he (by rw [Int.mul_neg, Int.neg_mul])
theorem t1_swap {a b d e : Int} (ha : inS a) (hb : inS b) (hd : inS d) (he : inS e) : t1V b a d e = t1V a b d e ∧ t1H b a d e = t1H a b d e := by
  unfold t1V t1H
  exact dot4_eq hb hb hd hd ha ha he he ha ha hd hd hb hb he he (by rw [Int.mul_comm b a])
theorem s1_a {a b c d : Int} (ha : inS a) (hb : inS b) (hc : inS c) (hd : inS d) :
    dotV 30 [a, b, wr IntKind.i64 (0 - c), wr IntKind.i64 (0 - d)] [a, b, c, d] = s1V 1 1 (-1) (-1) a b c d ∧ dotH 30 [a, b, wr IntKind.i64 (0 - c), wr IntKind.i64 (0 - d)] [a, b, c, d] = s1H 1 1 (-1) (-1) a b c d := by
  unfold s1V s1H
  rw [wneg hc, wneg hd, wone ha, wone hb, wmone hc, wmone hd]
  exact dot4_eq ha hb (inS_neg hc) (inS_neg hd) ha hb hc hd ha hb hc hd ha hb (inS_neg hc) (inS_neg hd) (by simp only [Int.mul_neg, Int.neg_mul])
theorem s1_b {a b c d : Int} (ha : inS a) (hb : inS b) (hc : inS c) (hd : inS d) :
    dotV 30 [a, c, wr IntKind.i64 (0 - d), wr IntKind.i64 (0 - b)] [a, c, d, b] = s1V 1 (-1) 1 (-1) a b c d ∧ dotH 30 [a, c, wr IntKind.i64 (0 - d), wr IntKind.i64 (0 - b)] [a, c, d, b] = s1H 1 (-1) 1 (-1) a b c d := by
  unfold s1V s1H
  rw [wneg hd, wneg hb, wone ha, wone hc, wmone hb, wmone hd]
  exact dot4_eq ha hc (inS_neg hd) (inS_neg hb) ha hc hd hb ha hb hc hd ha (inS_neg hb) hc (inS_neg hd) (by simp only [Int.mul_neg, Int.neg_mul]; generalize a * a = p; generalize b * b = q; generalize c * c = r; generalize d * d = s; omega)
theorem s1_c {a b c d : Int} (ha : inS a) (hb : inS b) (hc : inS c) (hd : inS d) :
    dotV 30 [a, d, wr IntKind.i64 (0 - b), wr IntKind.i64 (0 - c)] [a, d, b, c] = s1V 1 (-1) (-1) 1 a b c d ∧ dotH 30 [a, d, wr IntKind.i64 (0 - b), wr IntKind.i64 (0 - c)] [a, d, b, c] = s1H 1 (-1) (-1) 1 a b c d := by
  unfold s1V s1H
  rw [wneg hb, wneg hc, wone ha, wone hd, wmone hb, wmone hc]
  exact dot4_eq ha hd (inS_neg hb) (inS_neg hc) ha hd hb hc ha hb hc hd ha (inS_neg hb) (inS_neg hc) hd (by simp only [Int.mul_neg, Int.neg_mul]; generalize a * a = p; generalize b * b = q; generalize c * c = r; generalize d * d = s; omega)
end Go.Proofs.Ytdkmiliehlhmbaa

/- The second answer's matrix of a quaternion: its run (printed), in the program's words. -/
namespace Go.Proofs.Ytdkmiliehlhmbaa
open Go.Lr
set_option linter.unusedVariables false
set_option linter.unusedSimpArgs false

theorem r4ofR (a0 a1 a2 a3 : Int) (hb : Bool) (ty : TypeId) : (runF Try.prog S34 Zl 2000 9 [A0, .v (.agg [.int .i64 a0, .int .i64 a1, .int .i64 a2, .int .i64 a3])] [(0, flag ty hb)] 1 [none, none, none, none, none, none, none, none, none, none, none, none, none, none, none, none, none, none, none, none, none, none, none, none, none, none, none, none, none, none, none]).map acc3 = some (LV.v (V1.agg [At.int IntKind.i64 (dotV 30 [satV a0, satV a1, wr IntKind.i64 (0 - satV a2), wr IntKind.i64 (0 - satV a3)] [satV a0, satV a1, satV a2, satV a3]), At.int IntKind.i64 (dotV 30 [satV a1, satV a1, satV a0, satV a0] [satV a2, satV a2, wr IntKind.i64 (0 - satV a3), wr IntKind.i64 (0 - satV a3)]), At.int IntKind.i64 (dotV 30 [satV a1, satV a1, satV a0, satV a0] [satV a3, satV a3, satV a2, satV a2]), At.int IntKind.i64 (dotV 30 [satV a2, satV a2, satV a0, satV a0] [satV a1, satV a1, satV a3, satV a3]), At.int IntKind.i64 (dotV 30 [satV a0, satV a2, wr IntKind.i64 (0 - satV a3), wr IntKind.i64 (0 - satV a1)] [satV a0, satV a2, satV a3, satV a1]), At.int IntKind.i64 (dotV 30 [satV a2, satV a2, satV a0, satV a0] [satV a3, satV a3, wr IntKind.i64 (0 - satV a1), wr IntKind.i64 (0 - satV a1)]), At.int IntKind.i64 (dotV 30 [satV a3, satV a3, satV a0, satV a0] [satV a1, satV a1, wr IntKind.i64 (0 - satV a2), wr IntKind.i64 (0 - satV a2)]), At.int IntKind.i64 (dotV 30 [satV a3, satV a3, satV a0, satV a0] [satV a2, satV a2, satV a1, satV a1]), At.int IntKind.i64 (dotV 30 [satV a0, satV a3, wr IntKind.i64 (0 - satV a1), wr IntKind.i64 (0 - satV a2)] [satV a0, satV a3, satV a1, satV a2])]), some { ty := ty, fr := (0, 0), es := 0, cells := [At.bool (hb || satH a0 || satH a1 || satH a2 || satH a3 || dotH 30 [satV a0, satV a1, wr IntKind.i64 (0 - satV a2), wr IntKind.i64 (0 - satV a3)] [satV a0, satV a1, satV a2, satV a3] || dotH 30 [satV a1, satV a1, satV a0, satV a0] [satV a2, satV a2, wr IntKind.i64 (0 - satV a3), wr IntKind.i64 (0 - satV a3)] || dotH 30 [satV a1, satV a1, satV a0, satV a0] [satV a3, satV a3, satV a2, satV a2] || dotH 30 [satV a2, satV a2, satV a0, satV a0] [satV a1, satV a1, satV a3, satV a3] || dotH 30 [satV a0, satV a2, wr IntKind.i64 (0 - satV a3), wr IntKind.i64 (0 - satV a1)] [satV a0, satV a2, satV a3, satV a1] || dotH 30 [satV a2, satV a2, satV a0, satV a0] [satV a3, satV a3, wr IntKind.i64 (0 - satV a1), wr IntKind.i64 (0 - satV a1)] || dotH 30 [satV a3, satV a3, satV a0, satV a0] [satV a1, satV a1, wr IntKind.i64 (0 - satV a2), wr IntKind.i64 (0 - satV a2)] || dotH 30 [satV a3, satV a3, satV a0, satV a0] [satV a2, satV a2, satV a1, satV a1] || dotH 30 [satV a0, satV a3, wr IntKind.i64 (0 - satV a1), wr IntKind.i64 (0 - satV a2)] [satV a0, satV a3, satV a1, satV a2])] }, []) := by kernel_rfl
theorem sumR4of (ty : TypeId) : SumOK Try.prog 9 (accSum ty rofF) := by
  refine accSum_run (z := Zl) sound34 (own_of sound34 Try.func9 (by kernel_rfl)) fun args hb v h' cs hF hc => ?_
  unfold rofF at hF
  split at hF
  · rename_i a0 a1 a2 a3
    unfold rofT at hF
    cases hF
    have i0 := inS_sat a0
    have i1 := inS_sat a1
    have i2 := inS_sat a2
    have i3 := inS_sat a3
    have in0 : inS (wr IntKind.i64 (0 - satV a0)) := by rw [wneg i0]; exact inS_neg i0
    obtain ⟨e0, f0⟩ := s1_a i0 i1 i2 i3
    obtain ⟨e1, f1⟩ := t1_neg i1 i2 i0 i3
    obtain ⟨e3, f3⟩ := t1_swap i1 i2 i0 i3
    obtain ⟨e4, f4⟩ := s1_b i0 i1 i2 i3
    obtain ⟨e5, f5⟩ := t1_neg i2 i3 i0 i1
    obtain ⟨e6, f6⟩ := t1_neg i3 i1 i0 i2
    obtain ⟨g6, k6⟩ := t1_swap i1 i3 in0 i2
    obtain ⟨e7, f7⟩ := t1_swap i2 i3 i0 i1
    obtain ⟨e8, f8⟩ := s1_c i0 i1 i2 i3
    refine ⟨rfl, 2000, _, [], (r4ofR a0 a1 a2 a3 hb ty).trans ?_, ae_nil⟩
    rw [e0, e1, e4, e5, e6, e8, g6, f0, f1, f4, f5, f6, f8, k6]
    rw [← e3, ← e7, ← f3, ← f7]
    rfl
  · cases hF
end Go.Proofs.Ytdkmiliehlhmbaa

/- Headings in both answers: their runs, against what they compute. -/
namespace Go.Proofs.Ytdkmiliehlhmbaa
open Go.Lr
set_option linter.unusedVariables false
set_option linter.unusedSimpArgs false

noncomputable def S42 : FuncId → Option SumK := more (more (more S39 54 (accSum 41 unitS)) 29 (accAny unitS)) 9 (accAny rofF)
theorem sound42 : Sound Try.prog S42 := ((sound39.more sumpu).more (accAny_ok sumru)).more (accAny_ok sumR4of)

def acc3S (ty : TypeId) (r : Option (LV × Bool × List (Bool × Bool))) : Option (LV × Option Blk × List (Bool × Bool)) := r.map fun q => (q.1, some (flag ty q.2.1), q.2.2)
/-- The rotation that heads so; the heading of a rotation. -/
def fyS : List LV → Bool → Option (LV × Bool × List (Bool × Bool))
  | [.v (.one (.int .i64 a))], hb => unitS [.v (.agg [.int .i64 (cosV (mulV (wrapV a) 536870912 30)), .int .i64 0, .int .i64 0, .int .i64 (sinV (mulV (wrapV a) 536870912 30))])] (sinH (mulV (wrapV a) 536870912 30) (cosH (mulV (wrapV a) 536870912 30) (hb || mulH (wrapV a) 536870912 30)))
  | _, _ => none
def yawS : List LV → Bool → Option (LV × Bool × List (Bool × Bool))
  | [.v (.agg [.int .i64 a0, .int .i64 a1, .int .i64 a2, .int .i64 a3])], hb => match rofF [.v (.agg [.int .i64 a0, .int .i64 a1, .int .i64 a2, .int .i64 a3])] hb with
    | some (_, h, _) => some (I (atanV (t1V (satV a1) (satV a2) (satV a0) (satV a3)) (s1V 1 1 (-1) (-1) (satV a0) (satV a1) (satV a2) (satV a3))), atanH (t1V (satV a1) (satV a2) (satV a0) (satV a3)) (s1V 1 1 (-1) (-1) (satV a0) (satV a1) (satV a2) (satV a3)) h, [])
    | none => none
  | _, _ => none
theorem pfyR (a : Int) (hb : Bool) : (runF Try.prog S42 Zl 2000 21 [A0, I a] [(0, flag 41 hb)] 1 []).map acc3 = acc3S 41 (fyS [I a] hb) := by kernel_rfl
theorem rfyR (a : Int) (hb : Bool) (ty : TypeId) : (runF Try.prog S42 Zl 2000 6 [A0, I a] [(0, flag ty hb)] 1 []).map acc3 = acc3S ty (fyS [I a] hb) := by kernel_rfl
theorem pyawR (a0 a1 a2 a3 : Int) (hb : Bool) : (runF Try.prog S42 Zl 2000 19 [A0, .v (.agg [.int .i64 a0, .int .i64 a1, .int .i64 a2, .int .i64 a3])] [(0, flag 41 hb)] 1 []).map acc3 = acc3S 41 (yawS [.v (.agg [.int .i64 a0, .int .i64 a1, .int .i64 a2, .int .i64 a3])] hb) := by kernel_rfl
theorem ryawR (a0 a1 a2 a3 : Int) (hb : Bool) (ty : TypeId) : (runF Try.prog S42 Zl 2000 20 [A0, .v (.agg [.int .i64 a0, .int .i64 a1, .int .i64 a2, .int .i64 a3])] [(0, flag ty hb)] 1 []).map acc3 = acc3S ty (yawS [.v (.agg [.int .i64 a0, .int .i64 a1, .int .i64 a2, .int .i64 a3])] hb) := by kernel_rfl
end Go.Proofs.Ytdkmiliehlhmbaa

/- Exponentials in both answers: their runs, against what they compute. -/
namespace Go.Proofs.Ytdkmiliehlhmbaa
open Go.Lr
set_option linter.unusedVariables false
set_option linter.unusedSimpArgs false

def exN (v0 v1 v2 : Int) : Int := hypV [satV v0, satV v1, satV v2]
def exH0 (h : Bool) (v0 v1 v2 : Int) : Bool := h || satH v0 || satH v1 || satH v2 || hypH [satV v0, satV v1, satV v2]
def exA (v0 v1 v2 : Int) : Int := mulV (exN v0 v1 v2) 536870912 30
def exS (v0 v1 v2 : Int) : Int := divPV (sinV (exA v0 v1 v2)) (exN v0 v1 v2) 30
def exH1 (h : Bool) (v0 v1 v2 : Int) : Bool := cosH (exA v0 v1 v2) (sinH (exA v0 v1 v2) (exH0 h v0 v1 v2 || mulH (exN v0 v1 v2) 536870912 30) || divPH (sinV (exA v0 v1 v2)) (exN v0 v1 v2) 30) || mulH (satV v0) (exS v0 v1 v2) 30 || mulH (satV v1) (exS v0 v1 v2) 30 || mulH (satV v2) (exS v0 v1 v2) 30
def exB (v0 v1 v2 : Int) (hb : Bool) : Option (LV × Bool × List (Bool × Bool)) := unitS [.v (.agg [.int .i64 (cosV (exA v0 v1 v2)), .int .i64 (mulV (satV v0) (exS v0 v1 v2) 30), .int .i64 (mulV (satV v1) (exS v0 v1 v2) 30), .int .i64 (mulV (satV v2) (exS v0 v1 v2) 30)])] (exH1 hb v0 v1 v2)
def withAsk (c : Bool × Bool) (r : Option (LV × Option Blk × List (Bool × Bool))) : Option (LV × Option Blk × List (Bool × Bool)) := r.map fun q => (q.1, q.2.1, c :: q.2.2)
theorem pexZ (v0 v1 v2 : Int) (hb : Bool) : (runF Try.prog S42 Zl 2000 17 [A0, .v (.agg [.int .i64 v0, .int .i64 v1, .int .i64 v2])] [(0, flag 41 hb)] 1 [some true]).map acc3 = some (.v (.agg [.int .i64 1073741824, .int .i64 0, .int .i64 0, .int .i64 0]), some (flag 41 (exH0 hb v0 v1 v2)), [(exN v0 v1 v2 == 0, true)]) := by kernel_rfl
theorem rexZ (v0 v1 v2 : Int) (hb : Bool) (ty : TypeId) : (runF Try.prog S42 Zl 2000 18 [A0, .v (.agg [.int .i64 v0, .int .i64 v1, .int .i64 v2])] [(0, flag ty hb)] 1 [some true]).map acc3 = some (.v (.agg [.int .i64 1073741824, .int .i64 0, .int .i64 0, .int .i64 0]), some (flag ty (exH0 hb v0 v1 v2)), [(exN v0 v1 v2 == 0, true)]) := by kernel_rfl
theorem pexN (v0 v1 v2 : Int) (hb : Bool) : (runF Try.prog S42 Zl 2000 17 [A0, .v (.agg [.int .i64 v0, .int .i64 v1, .int .i64 v2])] [(0, flag 41 hb)] 1 [some false]).map acc3 = withAsk (exN v0 v1 v2 == 0, false) (acc3S 41 (exB v0 v1 v2 hb)) := by kernel_rfl
theorem rexN (v0 v1 v2 : Int) (hb : Bool) (ty : TypeId) : (runF Try.prog S42 Zl 2000 18 [A0, .v (.agg [.int .i64 v0, .int .i64 v1, .int .i64 v2])] [(0, flag ty hb)] 1 [some false]).map acc3 = withAsk (exN v0 v1 v2 == 0, false) (acc3S ty (exB v0 v1 v2 hb)) := by kernel_rfl
end Go.Proofs.Ytdkmiliehlhmbaa

/- Headings and exponentials in both answers: their summaries; turning vectors. -/
namespace Go.Proofs.Ytdkmiliehlhmbaa
open Go.Lr
set_option linter.unusedVariables false
set_option linter.unusedSimpArgs false

theorem unitS_inv {a0 a1 a2 a3 : Int} {hb : Bool} : ∃ v h, unitS [.v (.agg [.int .i64 a0, .int .i64 a1, .int .i64 a2, .int .i64 a3])] hb = some (v, h, []) ∧ v.ok noP = true := ⟨_, _, rfl, rfl⟩
theorem acc3S_some {ty : TypeId} {r : Option (LV × Bool × List (Bool × Bool))} {v : LV} {h : Bool} {cs : List (Bool × Bool)} (e : r = some (v, h, cs)) : acc3S ty r = some (v, some (flag ty h), cs) := by subst e; rfl
theorem sumPfy : SumOK Try.prog 21 (accSum 41 fyS) := by
  refine accSum_run (z := Zl) sound42 (own_of sound42 Try.func21 (by kernel_rfl)) fun args hb v h' cs hF hc => ?_
  have hF0 := hF
  unfold fyS at hF
  split at hF
  · rename_i a
    obtain ⟨v1, h1, e, ok⟩ := unitS_inv (a0 := cosV (mulV (wrapV a) 536870912 30)) (a1 := 0) (a2 := 0) (a3 := sinV (mulV (wrapV a) 536870912 30)) (hb := sinH (mulV (wrapV a) 536870912 30) (cosH (mulV (wrapV a) 536870912 30) (hb || mulH (wrapV a) 536870912 30)))
    have hF1 := hF
    rw [e] at hF1
    cases hF1
    exact ⟨ok, 2000, [], _, (pfyR a hb).trans (acc3S_some hF0), ae_nil⟩
  · cases hF
theorem sumRfy (ty : TypeId) : SumOK Try.prog 6 (accSum ty fyS) := by
  refine accSum_run (z := Zl) sound42 (own_of sound42 Try.func6 (by kernel_rfl)) fun args hb v h' cs hF hc => ?_
  have hF0 := hF
  unfold fyS at hF
  split at hF
  · rename_i a
    obtain ⟨v1, h1, e, ok⟩ := unitS_inv (a0 := cosV (mulV (wrapV a) 536870912 30)) (a1 := 0) (a2 := 0) (a3 := sinV (mulV (wrapV a) 536870912 30)) (hb := sinH (mulV (wrapV a) 536870912 30) (cosH (mulV (wrapV a) 536870912 30) (hb || mulH (wrapV a) 536870912 30)))
    have hF1 := hF
    rw [e] at hF1
    cases hF1
    exact ⟨ok, 2000, [], _, (rfyR a hb ty).trans (acc3S_some hF0), ae_nil⟩
  · cases hF
theorem sumPyaw : SumOK Try.prog 19 (accSum 41 yawS) := by
  refine accSum_run (z := Zl) sound42 (own_of sound42 Try.func19 (by kernel_rfl)) fun args hb v h' cs hF hc => ?_
  have hF0 := hF
  unfold yawS at hF
  split at hF
  · rename_i a0 a1 a2 a3
    split at hF
    · cases hF
      exact ⟨rfl, 2000, [], _, (pyawR a0 a1 a2 a3 hb).trans (acc3S_some hF0), ae_nil⟩
    · cases hF
  · cases hF
theorem sumRyaw (ty : TypeId) : SumOK Try.prog 20 (accSum ty yawS) := by
  refine accSum_run (z := Zl) sound42 (own_of sound42 Try.func20 (by kernel_rfl)) fun args hb v h' cs hF hc => ?_
  have hF0 := hF
  unfold yawS at hF
  split at hF
  · rename_i a0 a1 a2 a3
    split at hF
    · cases hF
      exact ⟨rfl, 2000, [], _, (ryawR a0 a1 a2 a3 hb ty).trans (acc3S_some hF0), ae_nil⟩
    · cases hF
  · cases hF
end Go.Proofs.Ytdkmiliehlhmbaa

/- Exponentials in both answers: their summaries; the second answer's turning of vectors. -/
namespace Go.Proofs.Ytdkmiliehlhmbaa
open Go.Lr
set_option linter.unusedVariables false
set_option linter.unusedSimpArgs false

def expS : List LV → Bool → Option (LV × Bool × List (Bool × Bool))
  | [.v (.agg [.int .i64 v0, .int .i64 v1, .int .i64 v2])], hb => bif exN v0 v1 v2 == 0 then some (.v (.agg [.int .i64 1073741824, .int .i64 0, .int .i64 0, .int .i64 0]), exH0 hb v0 v1 v2, []) else exB v0 v1 v2 hb
  | _, _ => none
theorem exB_inv (v0 v1 v2 : Int) (hb : Bool) : ∃ v h, exB v0 v1 v2 hb = some (v, h, []) ∧ v.ok noP = true := unitS_inv
theorem sumPexp : SumOK Try.prog 17 (accSum 41 expS) := by
  refine accSum_run (z := Zl) sound42 (own_of sound42 Try.func17 (by kernel_rfl)) fun args hb v h' cs hF hc => ?_
  unfold expS at hF
  split at hF
  · rename_i v0 v1 v2
    rcases bool_cases (exN v0 v1 v2 == 0) with h | h
    · rw [cond_t h] at hF
      cases hF
      exact ⟨rfl, 2000, _, _, pexZ v0 v1 v2 hb, ae_cons h ae_nil⟩
    · rw [cond_f h] at hF
      obtain ⟨v1', h1, e, ok⟩ := exB_inv v0 v1 v2 hb
      have hF1 := hF
      rw [e] at hF1
      cases hF1
      have hr := pexN v0 v1 v2 hb
      rw [acc3S_some hF] at hr
      exact ⟨ok, 2000, _, _, hr, ae_cons h ae_nil⟩
  · cases hF
theorem sumRexp (ty : TypeId) : SumOK Try.prog 18 (accSum ty expS) := by
  refine accSum_run (z := Zl) sound42 (own_of sound42 Try.func18 (by kernel_rfl)) fun args hb v h' cs hF hc => ?_
  unfold expS at hF
  split at hF
  · rename_i v0 v1 v2
    rcases bool_cases (exN v0 v1 v2 == 0) with h | h
    · rw [cond_t h] at hF
      cases hF
      exact ⟨rfl, 2000, _, _, rexZ v0 v1 v2 hb ty, ae_cons h ae_nil⟩
    · rw [cond_f h] at hF
      obtain ⟨v1', h1, e, ok⟩ := exB_inv v0 v1 v2 hb
      have hF1 := hF
      rw [e] at hF1
      cases hF1
      have hr := rexN v0 v1 v2 hb ty
      rw [acc3S_some hF] at hr
      exact ⟨ok, 2000, _, _, hr, ae_cons h ae_nil⟩
  · cases hF
end Go.Proofs.Ytdkmiliehlhmbaa

/- Tilts in both answers: the plain facts. -/
namespace Go.Proofs.Ytdkmiliehlhmbaa
open Go.Lr
set_option linter.unusedVariables false
set_option linter.unusedSimpArgs false

theorem sqN (a : Int) : 0 ≤ a * a := by
  have h : 0 ≤ a ∨ a ≤ 0 := by omega
  rcases h with h | h
  · exact Int.mul_nonneg h h
  · exact Int.mul_nonneg_of_nonpos_of_nonpos h h
theorem absSq (a : Int) : absV a * absV a = a * a := by rw [← absV_mul, absV_pos (sqN a)]
theorem sqS3 (x y z : Int) : sqS (List.take 64 [x, y, z]) = satV x * satV x + (satV y * satV y + satV z * satV z) := by
  show satV x * satV x + (satV y * satV y + (satV z * satV z + 0)) = _
  omega
/-- A clamped number's square. -/
theorem sqb {s : Int} (h0 : -1152921504606846976 ≤ s) (h1 : s ≤ 1152921504606846976) : 0 ≤ s * s ∧ s * s ≤ 1329227995784915872903807060280344576 := by
  refine ⟨sqN s, ?_⟩
  have := prod_lt (a := s) (b := s) (k := 1152921504606846976) (l := 1152921504606846976) (by unfold absV; split <;> omega) (by unfold absV; split <;> omega)
  omega
theorem root_side {s N : Int} (h1 : s * s ≤ N) (hN : N < 340282366920938463463374607431768211456) : s ≤ rootW N ∧ -s ≤ rootW N := by
  have h0 := sqN s
  constructor
  · refine root_ge (by omega) hN ?_
    by_cases h : s ≤ 0
    · exact .inl h
    · exact .inr (by omega)
  · refine root_ge (by omega) hN ?_
    by_cases h : -s ≤ 0
    · exact .inl h
    · right
      have e : -s * -s = s * s := by grind
      omega
/-- A length is at least each side. -/
theorem exN_side (v0 v1 v2 : Int) : (satV v0 ≤ exN v0 v1 v2 ∧ -satV v0 ≤ exN v0 v1 v2) ∧ (satV v1 ≤ exN v0 v1 v2 ∧ -satV v1 ≤ exN v0 v1 v2) ∧ (satV v2 ≤ exN v0 v1 v2 ∧ -satV v2 ≤ exN v0 v1 v2) ∧ 0 ≤ exN v0 v1 v2 ∧ exN v0 v1 v2 ≤ 1152921504606846976 := by
  unfold exN hypV
  rw [sqS3, sat_sat, sat_sat, sat_sat]
  have b0 := sat_bd v0
  have b1 := sat_bd v1
  have b2 := sat_bd v2
  generalize satV v0 = a at *
  generalize satV v1 = b at *
  generalize satV v2 = c at *
  have q0 := sqb b0.1 b0.2
  have q1 := sqb b1.1 b1.2
  have q2 := sqb b2.1 b2.2
  have hN : a * a + (b * b + c * c) < 340282366920938463463374607431768211456 := by omega
  have s0 := root_side (s := a) (N := a * a + (b * b + c * c)) (by omega) hN
  have s1 := root_side (s := b) (N := a * a + (b * b + c * c)) (by omega) hN
  have s2 := root_side (s := c) (N := a * a + (b * b + c * c)) (by omega) hN
  generalize rootW (a * a + (b * b + c * c)) = r at *
  have hr := sat_bd r
  have : satV r = r ∨ 1152921504606846976 ≤ satV r := by
    unfold satV clampV at *
    clear hr
    (repeat' split) <;> omega
  omega
theorem exN_zero {v0 v1 v2 : Int} (h0 : satV v0 = 0) (h1 : satV v1 = 0) (h2 : satV v2 = 0) : exN v0 v1 v2 = 0 ∧ hypH [satV v0, satV v1, satV v2] = false := by
  unfold exN
  rw [h0, h1, h2]
  exact ⟨by kernel_rfl, by kernel_rfl⟩
def tlZ (v0 v1 v2 : Int) : Bool := satV v0 == 0 && (satV v1 == 0 && (satV v2 == 0 && true))
theorem tlZ_eq (v0 v1 v2 : Int) : tlZ v0 v1 v2 = (exN v0 v1 v2 == 0) := by
  have hs := exN_side v0 v1 v2
  unfold tlZ
  by_cases h : exN v0 v1 v2 = 0
  · have e0 : satV v0 = 0 := by omega
    have e1 : satV v1 = 0 := by omega
    have e2 : satV v2 = 0 := by omega
    rw [e0, e1, e2, h]
    rfl
  · have e : (exN v0 v1 v2 == 0) = false := by simpa using h
    rw [e]
    by_cases e0 : satV v0 = 0
    · by_cases e1 : satV v1 = 0
      · by_cases e2 : satV v2 = 0
        · exact absurd (exN_zero e0 e1 e2).1 h
        · simp [e2]
      · simp [e1]
    · simp [e0]
theorem tl_h {v0 v1 v2 : Int} (h : (exN v0 v1 v2 == 0) = true) (hb : Bool) : exH0 hb v0 v1 v2 = (hb || satH v0 || satH v1 || satH v2) := by
  have hs := exN_side v0 v1 v2
  have h : exN v0 v1 v2 = 0 := by simpa using h
  unfold exH0
  rw [(exN_zero (v0 := v0) (v1 := v1) (v2 := v2) (by omega) (by omega) (by omega)).2, Bool.or_false]
/-- Divided by a length: the bounds, the flag. -/
theorem dpass {v u : Int} (h0 : v ≤ u) (h1 : -v ≤ u) (h2 : 1 ≤ u) (h3 : u ≤ 1152921504606846976) :
    (-u ≤ 2 * (divPV v u 30 * u - v * 1073741824) ∧ 2 * (divPV v u 30 * u - v * 1073741824) ≤ u) ∧ (-1073741824 ≤ divPV v u 30 ∧ divPV v u 30 ≤ 1073741824) ∧ divPH v u 30 = false := by
  have key : ∀ w : Int, 0 ≤ w → w ≤ u → -u ≤ 2 * (divV (w * 1073741824) u * u - w * 1073741824) ∧ 2 * (divV (w * 1073741824) u * u - w * 1073741824) ≤ u := by
    intro w w0 w1
    rw [div_pos (a := w * 1073741824) (b := u) (by omega) (by omega)]
    exact quo_bd (by omega) (by omega)
  have odd : ∀ w : Int, divV (-w) u = -divV w u := by
    intro w
    unfold divV
    rw [absV_negate]
    have hu : decide (u < 0) = false := by simp; omega
    rw [hu]
    by_cases g0 : w = 0
    · subst g0
      have : quoR (absV 0) (absV u) = 0 := by
        rw [show absV 0 = 0 from rfl]
        exact quoR_zero (by unfold absV; split <;> omega)
      rw [this]; rfl
    · by_cases g1 : w < 0
      · have e1 : decide (w < 0) = true := by simpa using g1
        have e2 : decide (-w < 0) = false := by simp; omega
        rw [e1, e2]; unfold sgn; simp
      · have e1 : decide (w < 0) = false := by simp; omega
        have e2 : decide (-w < 0) = true := by simp; omega
        rw [e1, e2]; unfold sgn; simp
  have hd : -u ≤ 2 * (divV (v * 1073741824) u * u - v * 1073741824) ∧ 2 * (divV (v * 1073741824) u * u - v * 1073741824) ≤ u := by
    by_cases h : 0 ≤ v
    · exact key v h h0
    · have k := key (-v) (by omega) h1
      rw [show -v * 1073741824 = -(v * 1073741824) by omega, odd, Int.neg_mul] at k
      omega
  have e : pow2 (Int.toNat 30) = 1073741824 := rfl
  have hb : -1073741824 ≤ divV (v * 1073741824) u ∧ divV (v * 1073741824) u ≤ 1073741824 := by
    generalize divV (v * 1073741824) u = t at *
    constructor
    · rcases Int.lt_or_le t (-1073741824) with h | h
      · exfalso
        have : t * u ≤ -1073741825 * u := Int.mul_le_mul_of_nonneg_right (by omega) (by omega)
        omega
      · exact h
    · rcases Int.lt_or_le 1073741824 t with h | h
      · exfalso
        have : 1073741825 * u ≤ t * u := Int.mul_le_mul_of_nonneg_right (by omega) (by omega)
        omega
      · exact h
  have hs : -1152921504606846976 ≤ v ∧ v ≤ 1152921504606846976 := by omega
  have ev : divPV v u 30 = divV (v * 1073741824) u := by
    unfold divPV byV
    rw [if_neg (by decide), if_neg (by decide), e, sat_in (a := v) hs.1 hs.2, sat_in (a := u) (by omega) h3, if_neg (by omega), sat_in (by omega) (by omega)]
  refine ⟨by rw [ev]; exact hd, by rw [ev]; exact hb, ?_⟩
  unfold divPH byH
  rw [e, sat_in (a := v) hs.1 hs.2, sat_in (a := u) (by omega) h3, satH_in (a := v) hs.1 hs.2, satH_in (a := u) (by omega) h3, satH_in (a := divV (v * 1073741824) u) (by omega) (by omega)]
  have : (u == 0) = false := by simp; omega
  rw [this]; rfl

theorem sub_one {u : Int} (h0 : -1073741824 ≤ u) (h1 : u ≤ 1073741824) : subV 1073741824 u = wr .i64 (1073741824 - u) ∧ subH 1073741824 u = false := by
  unfold subV subH
  rw [sat_in (a := u) (by omega) (by omega), sat_in (a := 1073741824) (by omega) (by omega), satH_in (a := u) (by omega) (by omega), satH_in (a := 1073741824) (by omega) (by omega), satH_in (a := 1073741824 - u) (by omega) (by omega), sat_in (a := 1073741824 - u) (by omega) (by omega), wr_i, w64_in (by omega) (by omega)]
  exact ⟨rfl, rfl⟩

/-- What Unit makes: its four numbers, its flag. -/
def uV0 (a0 a1 a2 a3 : Int) : Int := bif uZ a0 a1 a2 a3 then 1073741824 else uE (satV a0) (satV a0) (satV a1) (satV a2) (satV a3)
def uV1 (a0 a1 a2 a3 : Int) : Int := bif uZ a0 a1 a2 a3 then 0 else uE (satV a1) (satV a0) (satV a1) (satV a2) (satV a3)
def uV2 (a0 a1 a2 a3 : Int) : Int := bif uZ a0 a1 a2 a3 then 0 else uE (satV a2) (satV a0) (satV a1) (satV a2) (satV a3)
def uV3 (a0 a1 a2 a3 : Int) : Int := bif uZ a0 a1 a2 a3 then 0 else uE (satV a3) (satV a0) (satV a1) (satV a2) (satV a3)
def uFl (h : Bool) (a0 a1 a2 a3 : Int) : Bool := bif uZ a0 a1 a2 a3 then uS h a0 a1 a2 a3 else uH (uS h a0 a1 a2 a3) (satV a0) (satV a1) (satV a2) (satV a3)
def tU (v v0 v1 v2 : Int) : Int := divPV (satV v) (exN v0 v1 v2) 30
theorem tU_sub {v0 v1 v2 : Int} (h : (exN v0 v1 v2 == 0) = false) : subV 1073741824 (tU v2 v0 v1 v2) = wr .i64 (1073741824 - tU v2 v0 v1 v2) ∧ subH 1073741824 (tU v2 v0 v1 v2) = false := by
  have h : exN v0 v1 v2 ≠ 0 := by simpa using h
  have hs := exN_side v0 v1 v2
  unfold tU
  have := (dpass (v := satV v2) (u := exN v0 v1 v2) (by omega) (by omega) (by omega) (by omega)).2.1
  exact sub_one this.1 this.2
end Go.Proofs.Ytdkmiliehlhmbaa

/- Tilts in both answers: their runs, their summaries. -/
namespace Go.Proofs.Ytdkmiliehlhmbaa
open Go.Lr
set_option linter.unusedVariables false
set_option linter.unusedSimpArgs false

def tlH (h : Bool) (v0 v1 v2 : Int) : Bool := exH0 h v0 v1 v2 || divPH (satV v0) (exN v0 v1 v2) 30 || divPH (satV v1) (exN v0 v1 v2) 30 || divPH (satV v2) (exN v0 v1 v2) 30
def tlB (w v0 v1 v2 : Int) (h : Bool) : Option (LV × Bool × List (Bool × Bool)) := unitS [.v (.agg [.int .i64 w, .int .i64 (wr IntKind.i64 (0 - tU v1 v0 v1 v2)), .int .i64 (tU v0 v0 v1 v2), .int .i64 0])] h
def tiltS : List LV → Bool → Option (LV × Bool × List (Bool × Bool))
  | [.v (.agg [.int .i64 v0, .int .i64 v1, .int .i64 v2])], hb => bif exN v0 v1 v2 == 0 then some (.v (.agg [.int .i64 1073741824, .int .i64 0, .int .i64 0, .int .i64 0]), exH0 hb v0 v1 v2, []) else
    bif decide (wr IntKind.i64 (1073741824 - tU v2 v0 v1 v2) ≤ 16) then some (.v (.agg [.int .i64 0, .int .i64 1073741824, .int .i64 0, .int .i64 0]), tlH hb v0 v1 v2, []) else tlB (wr IntKind.i64 (1073741824 - tU v2 v0 v1 v2)) v0 v1 v2 (tlH hb v0 v1 v2)
  | _, _ => none
theorem tlB_inv (w v0 v1 v2 : Int) (hb : Bool) : ∃ v h, tlB w v0 v1 v2 hb = some (v, h, []) ∧ v.ok noP = true := unitS_inv
def with2 (c d : Bool × Bool) (r : Option (LV × Option Blk × List (Bool × Bool))) : Option (LV × Option Blk × List (Bool × Bool)) := r.map fun q => (q.1, q.2.1, d :: c :: q.2.2)
theorem ptZ (v0 v1 v2 : Int) (hb : Bool) : (runF Try.prog S42 Zl 2000 22 [A0, .v (.agg [.int .i64 v0, .int .i64 v1, .int .i64 v2])] [(0, flag 41 hb)] 1 [some true]).map acc3 = some (.v (.agg [.int .i64 1073741824, .int .i64 0, .int .i64 0, .int .i64 0]), some (flag 41 (hb || satH v0 || satH v1 || satH v2)), [(tlZ v0 v1 v2, true)]) := by kernel_rfl
theorem rtZ (v0 v1 v2 : Int) (hb : Bool) (ty : TypeId) : (runF Try.prog S42 Zl 2000 23 [A0, .v (.agg [.int .i64 v0, .int .i64 v1, .int .i64 v2])] [(0, flag ty hb)] 1 [some true]).map acc3 = some (.v (.agg [.int .i64 1073741824, .int .i64 0, .int .i64 0, .int .i64 0]), some (flag ty (exH0 hb v0 v1 v2)), [(exN v0 v1 v2 == 0, true)]) := by kernel_rfl
theorem ptL (v0 v1 v2 : Int) (hb : Bool) : (runF Try.prog S42 Zl 2000 22 [A0, .v (.agg [.int .i64 v0, .int .i64 v1, .int .i64 v2])] [(0, flag 41 hb)] 1 [some false, none, none, none, none, some true]).map acc3 = some (.v (.agg [.int .i64 0, .int .i64 1073741824, .int .i64 0, .int .i64 0]), some (flag 41 (tlH hb v0 v1 v2 || subH 1073741824 (tU v2 v0 v1 v2))), [(decide (subV 1073741824 (tU v2 v0 v1 v2) ≤ 16), true), (tlZ v0 v1 v2, false)]) := by kernel_rfl
theorem rtL (v0 v1 v2 : Int) (hb : Bool) (ty : TypeId) : (runF Try.prog S42 Zl 2000 23 [A0, .v (.agg [.int .i64 v0, .int .i64 v1, .int .i64 v2])] [(0, flag ty hb)] 1 [some false, some true]).map acc3 = some (.v (.agg [.int .i64 0, .int .i64 1073741824, .int .i64 0, .int .i64 0]), some (flag ty (tlH hb v0 v1 v2)), [(decide (wr IntKind.i64 (1073741824 - tU v2 v0 v1 v2) ≤ 16), true), (exN v0 v1 v2 == 0, false)]) := by kernel_rfl
theorem ptN (v0 v1 v2 : Int) (hb : Bool) : (runF Try.prog S42 Zl 2000 22 [A0, .v (.agg [.int .i64 v0, .int .i64 v1, .int .i64 v2])] [(0, flag 41 hb)] 1 [some false, none, none, none, none, some false]).map acc3 = with2 (tlZ v0 v1 v2, false) (decide (subV 1073741824 (tU v2 v0 v1 v2) ≤ 16), false) (acc3S 41 (tlB (subV 1073741824 (tU v2 v0 v1 v2)) v0 v1 v2 (tlH hb v0 v1 v2 || subH 1073741824 (tU v2 v0 v1 v2)))) := by kernel_rfl
theorem rtN (v0 v1 v2 : Int) (hb : Bool) (ty : TypeId) : (runF Try.prog S42 Zl 2000 23 [A0, .v (.agg [.int .i64 v0, .int .i64 v1, .int .i64 v2])] [(0, flag ty hb)] 1 [some false, some false]).map acc3 = with2 (exN v0 v1 v2 == 0, false) (decide (wr IntKind.i64 (1073741824 - tU v2 v0 v1 v2) ≤ 16), false) (acc3S ty (tlB (wr IntKind.i64 (1073741824 - tU v2 v0 v1 v2)) v0 v1 v2 (tlH hb v0 v1 v2))) := by kernel_rfl

theorem sumPtilt : SumOK Try.prog 22 (accSum 41 tiltS) := by
  refine accSum_run (z := Zl) sound42 (own_of sound42 Try.func22 (by kernel_rfl)) fun args hb v h' cs hF hc => ?_
  unfold tiltS at hF
  split at hF
  · rename_i v0 v1 v2
    have hz := tlZ_eq v0 v1 v2
    rcases bool_cases (exN v0 v1 v2 == 0) with h | h
    · rw [cond_t h] at hF
      cases hF
      have hr := ptZ v0 v1 v2 hb
      rw [← tl_h h] at hr
      exact ⟨rfl, 2000, _, _, hr, ae_cons (hz.trans h) ae_nil⟩
    · rw [cond_f h] at hF
      obtain ⟨es, eh⟩ := tU_sub h
      rcases bool_cases (decide (wr IntKind.i64 (1073741824 - tU v2 v0 v1 v2) ≤ 16)) with g | g
      · rw [cond_t g] at hF
        cases hF
        have hr := ptL v0 v1 v2 hb
        rw [es, eh, Bool.or_false] at hr
        exact ⟨rfl, 2000, _, _, hr, ae_cons g (ae_cons (hz.trans h) ae_nil)⟩
      · rw [cond_f g] at hF
        obtain ⟨v1', h1, e, ok⟩ := tlB_inv (wr IntKind.i64 (1073741824 - tU v2 v0 v1 v2)) v0 v1 v2 (tlH hb v0 v1 v2)
        have hF1 := hF
        rw [e] at hF1
        cases hF1
        have hr := ptN v0 v1 v2 hb
        rw [es, eh, Bool.or_false, acc3S_some hF] at hr
        exact ⟨ok, 2000, _, _, hr, ae_cons g (ae_cons (hz.trans h) ae_nil)⟩
  · cases hF
theorem sumRtilt (ty : TypeId) : SumOK Try.prog 23 (accSum ty tiltS) := by
  refine accSum_run (z := Zl) sound42 (own_of sound42 Try.func23 (by kernel_rfl)) fun args hb v h' cs hF hc => ?_
  unfold tiltS at hF
  split at hF
  · rename_i v0 v1 v2
    rcases bool_cases (exN v0 v1 v2 == 0) with h | h
    · rw [cond_t h] at hF
      cases hF
      exact ⟨rfl, 2000, _, _, rtZ v0 v1 v2 hb ty, ae_cons h ae_nil⟩
    · rw [cond_f h] at hF
      rcases bool_cases (decide (wr IntKind.i64 (1073741824 - tU v2 v0 v1 v2) ≤ 16)) with g | g
      · rw [cond_t g] at hF
        cases hF
        exact ⟨rfl, 2000, _, _, rtL v0 v1 v2 hb ty, ae_cons g (ae_cons h ae_nil)⟩
      · rw [cond_f g] at hF
        obtain ⟨v1', h1, e, ok⟩ := tlB_inv (wr IntKind.i64 (1073741824 - tU v2 v0 v1 v2)) v0 v1 v2 (tlH hb v0 v1 v2)
        have hF1 := hF
        rw [e] at hF1
        cases hF1
        have hr := rtN v0 v1 v2 hb ty
        rw [acc3S_some hF] at hr
        exact ⟨ok, 2000, _, _, hr, ae_cons g (ae_cons h ae_nil)⟩
  · cases hF
end Go.Proofs.Ytdkmiliehlhmbaa

/- Turned vectors in both answers; every function of rotations summed up. -/
namespace Go.Proofs.Ytdkmiliehlhmbaa
open Go.Lr
set_option linter.unusedVariables false
set_option linter.unusedSimpArgs false

def apS : List LV → Bool → Option (LV × Bool × List (Bool × Bool))
  | [.v (.agg [.int .i64 m0, .int .i64 m1, .int .i64 m2, .int .i64 m3, .int .i64 m4, .int .i64 m5, .int .i64 m6, .int .i64 m7, .int .i64 m8]), .v (.agg [.int .i64 v0, .int .i64 v1, .int .i64 v2])], hb => some (.v (.agg [.int .i64 (dotV 30 [m0, m1, m2] [v0, v1, v2]), .int .i64 (dotV 30 [m3, m4, m5] [v0, v1, v2]), .int .i64 (dotV 30 [m6, m7, m8] [v0, v1, v2])]), (hb || dotH 30 [m0, m1, m2] [v0, v1, v2] || dotH 30 [m3, m4, m5] [v0, v1, v2] || dotH 30 [m6, m7, m8] [v0, v1, v2]), [])
  | _, _ => none
theorem papR (m0 m1 m2 m3 m4 m5 m6 m7 m8 v0 v1 v2 : Int) (hb : Bool) : (runF Try.prog S42 Zl 2000 14 [A0, .v (.agg [.int .i64 m0, .int .i64 m1, .int .i64 m2, .int .i64 m3, .int .i64 m4, .int .i64 m5, .int .i64 m6, .int .i64 m7, .int .i64 m8]), .v (.agg [.int .i64 v0, .int .i64 v1, .int .i64 v2])] [(0, flag 41 hb)] 1 []).map acc3 = some (.v (.agg [.int .i64 (dotV 30 [m0, m1, m2] [v0, v1, v2]), .int .i64 (dotV 30 [m3, m4, m5] [v0, v1, v2]), .int .i64 (dotV 30 [m6, m7, m8] [v0, v1, v2])]), some (flag 41 (hb || dotH 30 [m0, m1, m2] [v0, v1, v2] || dotH 30 [m3, m4, m5] [v0, v1, v2] || dotH 30 [m6, m7, m8] [v0, v1, v2])), []) := by kernel_rfl
theorem sumpap : SumOK Try.prog 14 (accSum 41 apS) := by
  refine accSum_run (z := Zl) sound42 (own_of sound42 Try.func14 (by kernel_rfl)) fun args hb v h' cs hF hc => ?_
  unfold apS at hF
  split at hF
  · cases hF
    exact ⟨rfl, 2000, [], _, papR _ _ _ _ _ _ _ _ _ _ _ _ hb, ae_nil⟩
  · cases hF
theorem rapR (m0 m1 m2 m3 m4 m5 m6 m7 m8 v0 v1 v2 : Int) (hb : Bool) (ty : TypeId) : (runF Try.prog S42 Zl 2000 15 [A0, .v (.agg [.int .i64 m0, .int .i64 m1, .int .i64 m2, .int .i64 m3, .int .i64 m4, .int .i64 m5, .int .i64 m6, .int .i64 m7, .int .i64 m8]), .v (.agg [.int .i64 v0, .int .i64 v1, .int .i64 v2])] [(0, flag ty hb)] 1 []).map acc3 = some (.v (.agg [.int .i64 (dotV 30 [m0, m1, m2] [v0, v1, v2]), .int .i64 (dotV 30 [m3, m4, m5] [v0, v1, v2]), .int .i64 (dotV 30 [m6, m7, m8] [v0, v1, v2])]), some (flag ty (hb || dotH 30 [m0, m1, m2] [v0, v1, v2] || dotH 30 [m3, m4, m5] [v0, v1, v2] || dotH 30 [m6, m7, m8] [v0, v1, v2])), []) := by kernel_rfl
theorem sumrap (ty : TypeId) : SumOK Try.prog 15 (accSum ty apS) := by
  refine accSum_run (z := Zl) sound42 (own_of sound42 Try.func15 (by kernel_rfl)) fun args hb v h' cs hF hc => ?_
  unfold apS at hF
  split at hF
  · cases hF
    exact ⟨rfl, 2000, [], _, rapR _ _ _ _ _ _ _ _ _ _ _ _ hb ty, ae_nil⟩
  · cases hF
def bkS : List LV → Bool → Option (LV × Bool × List (Bool × Bool))
  | [.v (.agg [.int .i64 m0, .int .i64 m1, .int .i64 m2, .int .i64 m3, .int .i64 m4, .int .i64 m5, .int .i64 m6, .int .i64 m7, .int .i64 m8]), .v (.agg [.int .i64 v0, .int .i64 v1, .int .i64 v2])], hb => some (.v (.agg [.int .i64 (dotV 30 [m0, m3, m6] [v0, v1, v2]), .int .i64 (dotV 30 [m1, m4, m7] [v0, v1, v2]), .int .i64 (dotV 30 [m2, m5, m8] [v0, v1, v2])]), (hb || dotH 30 [m0, m3, m6] [v0, v1, v2] || dotH 30 [m1, m4, m7] [v0, v1, v2] || dotH 30 [m2, m5, m8] [v0, v1, v2]), [])
  | _, _ => none
theorem pbkR (m0 m1 m2 m3 m4 m5 m6 m7 m8 v0 v1 v2 : Int) (hb : Bool) : (runF Try.prog S42 Zl 2000 16 [A0, .v (.agg [.int .i64 m0, .int .i64 m1, .int .i64 m2, .int .i64 m3, .int .i64 m4, .int .i64 m5, .int .i64 m6, .int .i64 m7, .int .i64 m8]), .v (.agg [.int .i64 v0, .int .i64 v1, .int .i64 v2])] [(0, flag 41 hb)] 1 []).map acc3 = some (.v (.agg [.int .i64 (dotV 30 [m0, m3, m6] [v0, v1, v2]), .int .i64 (dotV 30 [m1, m4, m7] [v0, v1, v2]), .int .i64 (dotV 30 [m2, m5, m8] [v0, v1, v2])]), some (flag 41 (hb || dotH 30 [m0, m3, m6] [v0, v1, v2] || dotH 30 [m1, m4, m7] [v0, v1, v2] || dotH 30 [m2, m5, m8] [v0, v1, v2])), []) := by kernel_rfl
theorem sumpbk : SumOK Try.prog 16 (accSum 41 bkS) := by
  refine accSum_run (z := Zl) sound42 (own_of sound42 Try.func16 (by kernel_rfl)) fun args hb v h' cs hF hc => ?_
  unfold bkS at hF
  split at hF
  · cases hF
    exact ⟨rfl, 2000, [], _, pbkR _ _ _ _ _ _ _ _ _ _ _ _ hb, ae_nil⟩
  · cases hF
theorem rbkR (m0 m1 m2 m3 m4 m5 m6 m7 m8 v0 v1 v2 : Int) (hb : Bool) (ty : TypeId) : (runF Try.prog S42 Zl 2000 8 [A0, .v (.agg [.int .i64 m0, .int .i64 m1, .int .i64 m2, .int .i64 m3, .int .i64 m4, .int .i64 m5, .int .i64 m6, .int .i64 m7, .int .i64 m8]), .v (.agg [.int .i64 v0, .int .i64 v1, .int .i64 v2])] [(0, flag ty hb)] 1 []).map acc3 = some (.v (.agg [.int .i64 (dotV 30 [m0, m3, m6] [v0, v1, v2]), .int .i64 (dotV 30 [m1, m4, m7] [v0, v1, v2]), .int .i64 (dotV 30 [m2, m5, m8] [v0, v1, v2])]), some (flag ty (hb || dotH 30 [m0, m3, m6] [v0, v1, v2] || dotH 30 [m1, m4, m7] [v0, v1, v2] || dotH 30 [m2, m5, m8] [v0, v1, v2])), []) := by kernel_rfl
theorem sumrbk (ty : TypeId) : SumOK Try.prog 8 (accSum ty bkS) := by
  refine accSum_run (z := Zl) sound42 (own_of sound42 Try.func8 (by kernel_rfl)) fun args hb v h' cs hF hc => ?_
  unfold bkS at hF
  split at hF
  · cases hF
    exact ⟨rfl, 2000, [], _, rbkR _ _ _ _ _ _ _ _ _ _ _ _ hb ty, ae_nil⟩
  · cases hF

def eV0 (v0 v1 v2 : Int) : Int := bif exN v0 v1 v2 == 0 then 1073741824 else uV0 (cosV (exA v0 v1 v2)) (mulV (satV v0) (exS v0 v1 v2) 30) (mulV (satV v1) (exS v0 v1 v2) 30) (mulV (satV v2) (exS v0 v1 v2) 30)
def eV1 (v0 v1 v2 : Int) : Int := bif exN v0 v1 v2 == 0 then 0 else uV1 (cosV (exA v0 v1 v2)) (mulV (satV v0) (exS v0 v1 v2) 30) (mulV (satV v1) (exS v0 v1 v2) 30) (mulV (satV v2) (exS v0 v1 v2) 30)
def eV2 (v0 v1 v2 : Int) : Int := bif exN v0 v1 v2 == 0 then 0 else uV2 (cosV (exA v0 v1 v2)) (mulV (satV v0) (exS v0 v1 v2) 30) (mulV (satV v1) (exS v0 v1 v2) 30) (mulV (satV v2) (exS v0 v1 v2) 30)
def eV3 (v0 v1 v2 : Int) : Int := bif exN v0 v1 v2 == 0 then 0 else uV3 (cosV (exA v0 v1 v2)) (mulV (satV v0) (exS v0 v1 v2) 30) (mulV (satV v1) (exS v0 v1 v2) 30) (mulV (satV v2) (exS v0 v1 v2) 30)
def eFl (h : Bool) (v0 v1 v2 : Int) : Bool := bif exN v0 v1 v2 == 0 then exH0 h v0 v1 v2 else uFl (exH1 h v0 v1 v2) (cosV (exA v0 v1 v2)) (mulV (satV v0) (exS v0 v1 v2) 30) (mulV (satV v1) (exS v0 v1 v2) 30) (mulV (satV v2) (exS v0 v1 v2) 30)
def tV0 (v0 v1 v2 : Int) : Int := bif exN v0 v1 v2 == 0 then 1073741824 else bif decide (wr IntKind.i64 (1073741824 - tU v2 v0 v1 v2) ≤ 16) then 0 else uV0 (wr IntKind.i64 (1073741824 - tU v2 v0 v1 v2)) (wr IntKind.i64 (0 - tU v1 v0 v1 v2)) (tU v0 v0 v1 v2) 0
def tV1 (v0 v1 v2 : Int) : Int := bif exN v0 v1 v2 == 0 then 0 else bif decide (wr IntKind.i64 (1073741824 - tU v2 v0 v1 v2) ≤ 16) then 1073741824 else uV1 (wr IntKind.i64 (1073741824 - tU v2 v0 v1 v2)) (wr IntKind.i64 (0 - tU v1 v0 v1 v2)) (tU v0 v0 v1 v2) 0
def tV2 (v0 v1 v2 : Int) : Int := bif exN v0 v1 v2 == 0 then 0 else bif decide (wr IntKind.i64 (1073741824 - tU v2 v0 v1 v2) ≤ 16) then 0 else uV2 (wr IntKind.i64 (1073741824 - tU v2 v0 v1 v2)) (wr IntKind.i64 (0 - tU v1 v0 v1 v2)) (tU v0 v0 v1 v2) 0
def tV3 (v0 v1 v2 : Int) : Int := bif exN v0 v1 v2 == 0 then 0 else bif decide (wr IntKind.i64 (1073741824 - tU v2 v0 v1 v2) ≤ 16) then 0 else uV3 (wr IntKind.i64 (1073741824 - tU v2 v0 v1 v2)) (wr IntKind.i64 (0 - tU v1 v0 v1 v2)) (tU v0 v0 v1 v2) 0
def tFl (h : Bool) (v0 v1 v2 : Int) : Bool := bif exN v0 v1 v2 == 0 then exH0 h v0 v1 v2 else bif decide (wr IntKind.i64 (1073741824 - tU v2 v0 v1 v2) ≤ 16) then tlH h v0 v1 v2 else uFl (tlH h v0 v1 v2) (wr IntKind.i64 (1073741824 - tU v2 v0 v1 v2)) (wr IntKind.i64 (0 - tU v1 v0 v1 v2)) (tU v0 v0 v1 v2) 0
def expN : List LV → Bool → Option (LV × Bool × List (Bool × Bool))
  | [.v (.agg [.int .i64 v0, .int .i64 v1, .int .i64 v2])], hb => some (.v (.agg [.int .i64 (eV0 v0 v1 v2), .int .i64 (eV1 v0 v1 v2), .int .i64 (eV2 v0 v1 v2), .int .i64 (eV3 v0 v1 v2)]), eFl hb v0 v1 v2, [])
  | _, _ => none
theorem expN_eq (v0 v1 v2 : Int) (hb : Bool) : expS [.v (.agg [.int .i64 v0, .int .i64 v1, .int .i64 v2])] hb = expN [.v (.agg [.int .i64 v0, .int .i64 v1, .int .i64 v2])] hb := by
  unfold expS expN eV0 eV1 eV2 eV3 eFl
  rcases bool_cases (exN v0 v1 v2 == 0) with h | h
  · simp only [h, cond_true]
  · simp only [h, cond_false]; rfl
theorem sumPexpN : SumOK Try.prog 17 (accSum 41 expN) := by
  refine (sumPexp).acc_re fun args hb v h' cs hF _ => ?_
  have hF0 := hF
  unfold expN at hF
  split at hF
  · cases hF
    exact ⟨[], (expN_eq _ _ _ hb).trans hF0, ae_nil⟩
  · cases hF
theorem sumRexpN (ty : TypeId) : SumOK Try.prog 18 (accSum ty expN) := by
  refine (sumRexp ty).acc_re fun args hb v h' cs hF _ => ?_
  have hF0 := hF
  unfold expN at hF
  split at hF
  · cases hF
    exact ⟨[], (expN_eq _ _ _ hb).trans hF0, ae_nil⟩
  · cases hF
def tiltN : List LV → Bool → Option (LV × Bool × List (Bool × Bool))
  | [.v (.agg [.int .i64 v0, .int .i64 v1, .int .i64 v2])], hb => some (.v (.agg [.int .i64 (tV0 v0 v1 v2), .int .i64 (tV1 v0 v1 v2), .int .i64 (tV2 v0 v1 v2), .int .i64 (tV3 v0 v1 v2)]), tFl hb v0 v1 v2, [])
  | _, _ => none
theorem tiltN_eq (v0 v1 v2 : Int) (hb : Bool) : tiltS [.v (.agg [.int .i64 v0, .int .i64 v1, .int .i64 v2])] hb = tiltN [.v (.agg [.int .i64 v0, .int .i64 v1, .int .i64 v2])] hb := by
  unfold tiltS tiltN tV0 tV1 tV2 tV3 tFl
  rcases bool_cases (exN v0 v1 v2 == 0) with h | h
  · simp only [h, cond_true]
  · rcases bool_cases (decide (wr IntKind.i64 (1073741824 - tU v2 v0 v1 v2) ≤ 16)) with g | g
    · simp only [h, g, cond_true, cond_false]
    · simp only [h, g, cond_false]; rfl
theorem sumPtiltN : SumOK Try.prog 22 (accSum 41 tiltN) := by
  refine (sumPtilt).acc_re fun args hb v h' cs hF _ => ?_
  have hF0 := hF
  unfold tiltN at hF
  split at hF
  · cases hF
    exact ⟨[], (tiltN_eq _ _ _ hb).trans hF0, ae_nil⟩
  · cases hF
theorem sumRtiltN (ty : TypeId) : SumOK Try.prog 23 (accSum ty tiltN) := by
  refine (sumRtilt ty).acc_re fun args hb v h' cs hF _ => ?_
  have hF0 := hF
  unfold tiltN at hF
  split at hF
  · cases hF
    exact ⟨[], (tiltN_eq _ _ _ hb).trans hF0, ae_nil⟩
  · cases hF

noncomputable def S43 : FuncId → Option SumK := more (more (more (more (more (more (more (more (more (more (more (more S42 21 (accSum 41 fyS)) 6 (accAny fyS)) 19 (accSum 41 yawS)) 20 (accAny yawS)) 17 (accSum 41 expN)) 18 (accAny expN)) 22 (accSum 41 tiltN)) 23 (accAny tiltN)) 14 (accSum 41 apS)) 15 (accAny apS)) 16 (accSum 41 bkS)) 8 (accAny bkS)
theorem sound43 : Sound Try.prog S43 := (((((((((((sound42.more sumPfy).more (accAny_ok sumRfy)).more sumPyaw).more (accAny_ok sumRyaw)).more sumPexpN).more (accAny_ok sumRexpN)).more sumPtiltN).more (accAny_ok sumRtiltN)).more sumpap).more (accAny_ok sumrap)).more sumpbk).more (accAny_ok sumrbk)
end Go.Proofs.Ytdkmiliehlhmbaa

/- The awake of chapter 7's law folder: its run; all summaries for its laws. -/
namespace Go.Proofs.Ytdkmiliehlhmbaa
open Go.Lr
set_option linter.unusedVariables false
set_option linter.unusedSimpArgs false

theorem runAwakeR : (runF Try.prog S24 Zc 4000 12 [] [] 0 []).map (fun r => (r.1, r.2.2.2)) = some (B true, []) := by kernel_rfl
theorem sumAwakeR : SumOK Try.prog 12 (pureSum trueF) := pureSum_const sound24 (own_of sound24 Try.func12 (by kernel_rfl)) runAwakeR
noncomputable def S44 : FuncId → Option SumK := more S43 12 (pureSum trueF)
theorem sound44 : Sound Try.prog S44 := sound43.more sumAwakeR
end Go.Proofs.Ytdkmiliehlhmbaa

/- Units: plain bounds of what Unit makes. -/
namespace Go.Proofs.Ytdkmiliehlhmbaa
open Go.Lr
set_option linter.unusedVariables false
set_option linter.unusedSimpArgs false

theorem sqS4 (x y z w : Int) : sqS (List.take 64 [x, y, z, w]) = satV x * satV x + (satV y * satV y + (satV z * satV z + satV w * satV w)) := by
  show satV x * satV x + (satV y * satV y + (satV z * satV z + (satV w * satV w + 0))) = _
  omega
def n4 (a b c d : Int) : Int := a * a + (b * b + (c * c + d * d))
/-- A length of four. -/
theorem hyp4 {a b c d : Int} (ha : inS a) (hb : inS b) (hc : inS c) (hd : inS d) (h : 1 ≤ n4 a b c d) :
    (1 ≤ hypV [a, b, c, d] ∧ hypV [a, b, c, d] ≤ 1152921504606846976) ∧ (a ≤ hypV [a, b, c, d] ∧ -a ≤ hypV [a, b, c, d]) ∧ (b ≤ hypV [a, b, c, d] ∧ -b ≤ hypV [a, b, c, d]) ∧ (c ≤ hypV [a, b, c, d] ∧ -c ≤ hypV [a, b, c, d]) ∧ (d ≤ hypV [a, b, c, d] ∧ -d ≤ hypV [a, b, c, d]) ∧
    hypV [a, b, c, d] * hypV [a, b, c, d] - hypV [a, b, c, d] + 1 ≤ n4 a b c d ∧ (n4 a b c d ≤ 1329227995784915872903807060280344576 → n4 a b c d ≤ hypV [a, b, c, d] * hypV [a, b, c, d] + hypV [a, b, c, d] ∧ hypH [a, b, c, d] = false) := by
  have eH : hypH [a, b, c, d] = satH (rootW (n4 a b c d)) := by
    unfold hypH
    rw [sqS4, sat_in ha.1 ha.2, sat_in hb.1 hb.2, sat_in hc.1 hc.2, sat_in hd.1 hd.2]
    show ((satH a || (satH b || (satH c || (satH d || false)))) || _) = _
    rw [satH_in ha.1 ha.2, satH_in hb.1 hb.2, satH_in hc.1 hc.2, satH_in hd.1 hd.2]
    rfl
  have eV : hypV [a, b, c, d] = satV (rootW (n4 a b c d)) := by
    unfold hypV
    rw [sqS4, sat_in ha.1 ha.2, sat_in hb.1 hb.2, sat_in hc.1 hc.2, sat_in hd.1 hd.2]
    rfl
  rw [eV, eH]
  have q0 := sqb ha.1 ha.2
  have q1 := sqb hb.1 hb.2
  have q2 := sqb hc.1 hc.2
  have q3 := sqb hd.1 hd.2
  have hN : n4 a b c d < 340282366920938463463374607431768211456 := by unfold n4; omega
  have s0 := root_side (s := a) (N := n4 a b c d) (by unfold n4; omega) hN
  have s1 := root_side (s := b) (N := n4 a b c d) (by unfold n4; omega) hN
  have s2 := root_side (s := c) (N := n4 a b c d) (by unfold n4; omega) hN
  have s3 := root_side (s := d) (N := n4 a b c d) (by unfold n4; omega) hN
  obtain ⟨r0, r1, r2⟩ := rootW_spec (N := n4 a b c d) (by omega) hN
  generalize rootW (n4 a b c d) = r at *
  generalize n4 a b c d = N at *
  unfold inS at ha hb hc hd
  have hr1 : 1 ≤ r := by
    rcases Int.lt_or_le r 1 with h' | h'
    · have : r = 0 := by omega
      subst this
      omega
    · exact h'
  have r2' : r * r - r + 1 ≤ N := by
    rcases r2 with h' | h'
    · omega
    · exact h'
  by_cases hle : r ≤ 1152921504606846976
  · rw [sat_in (by omega) hle, satH_in (by omega) hle]
    exact ⟨by omega, by omega, by omega, by omega, by omega, by omega, fun _ => ⟨by omega, rfl⟩⟩
  · have hs : satV r = 1152921504606846976 := by
      unfold satV clampV
      (repeat' split) <;> omega
    have hrr : 1152921504606846977 * 1152921504606846976 ≤ r * (r - 1) := Int.mul_le_mul (by omega) (by omega) (by omega) (by omega)
    have e : r * (r - 1) = r * r - r := by grind
    rw [hs]
    exact ⟨by omega, by omega, by omega, by omega, by omega, by omega, fun h => absurd h (by omega)⟩

theorem sq_low {t s n : Int} (h0 : s ≤ n) (h1 : -s ≤ n) (hn : 1 ≤ n) (e0 : -n ≤ 2 * (t * n - s * 1073741824)) (e1 : 2 * (t * n - s * 1073741824) ≤ n) :
    s * s * 1152921504606846976 - 1073741824 * (n * n) ≤ t * t * (n * n) := by
  have p := prod_lt (a := s) (b := 2 * (t * n - s * 1073741824)) (k := n) (l := n) (by unfold absV; split <;> omega) (by unfold absV; split <;> omega)
  have q := sqN (t * n - s * 1073741824)
  have g1 : s * (2 * (t * n - s * 1073741824)) = 2 * (s * t * n) - 2147483648 * (s * s) := by grind
  have g2 : (t * n - s * 1073741824) * (t * n - s * 1073741824) = t * t * (n * n) - 2147483648 * (s * t * n) + 1152921504606846976 * (s * s) := by grind
  omega
/-- One pass: the numbers are about a Unit's. -/
theorem pass1 {a b c d n : Int} (hn : 1 ≤ n) (hn1 : n ≤ 1152921504606846976) (ha : a ≤ n ∧ -a ≤ n) (hb : b ≤ n ∧ -b ≤ n) (hc : c ≤ n ∧ -c ≤ n) (hd : d ≤ n ∧ -d ≤ n) (hN : n * n - n + 1 ≤ n4 a b c d) :
    3458764496640671744 ≤ 4 * n4 (divPV a n 30) (divPV b n 30) (divPV c n 30) (divPV d n 30) := by
  have a1 := sq_low ha.1 ha.2 hn (dpass ha.1 ha.2 hn hn1).1.1 (dpass ha.1 ha.2 hn hn1).1.2
  have b1 := sq_low hb.1 hb.2 hn (dpass hb.1 hb.2 hn hn1).1.1 (dpass hb.1 hb.2 hn hn1).1.2
  have c1 := sq_low hc.1 hc.2 hn (dpass hc.1 hc.2 hn hn1).1.1 (dpass hc.1 hc.2 hn hn1).1.2
  have d1 := sq_low hd.1 hd.2 hn (dpass hd.1 hd.2 hn hn1).1.1 (dpass hd.1 hd.2 hn hn1).1.2
  generalize divPV a n 30 = a' at *
  generalize divPV b n 30 = b' at *
  generalize divPV c n 30 = c' at *
  generalize divPV d n 30 = d' at *
  unfold n4 at *
  have hp : 0 < n * n := Int.mul_pos (by omega) (by omega)
  have h3 : 3 * (n * n) ≤ 4 * (a * a + (b * b + (c * c + d * d))) := by
    have q := sqN (n - 2)
    have e : (n - 2) * (n - 2) = n * n - 4 * n + 4 := by grind
    omega
  have e : (4 * (a' * a' + (b' * b' + (c' * c' + d' * d')))) * (n * n) = 4 * (a' * a' * (n * n) + (b' * b' * (n * n) + (c' * c' * (n * n) + d' * d' * (n * n)))) := by grind
  refine Int.le_of_mul_le_mul_right (a := n * n) ?_ hp
  rw [e]
  omega

/-- The sum of four numbers' sizes against the squares' (Cauchy and Schwarz). -/
theorem cs4 {a b c d m : Int} (hm : 0 ≤ m) (h : n4 a b c d ≤ m * m + m) : absV a + absV b + absV c + absV d ≤ 2 * m := by
  unfold n4 at h
  rw [← absSq a, ← absSq b, ← absSq c, ← absSq d] at h
  have a0 := absV_nn a
  have b0 := absV_nn b
  have c0 := absV_nn c
  have d0 := absV_nn d
  generalize absV a = x at *
  generalize absV b = y at *
  generalize absV c = z at *
  generalize absV d = w at *
  rcases Int.lt_or_le (2 * m) (x + y + z + w) with hl | hl
  · exfalso
    have q : (2 * m + 1) * (2 * m + 1) ≤ (x + y + z + w) * (x + y + z + w) := Int.mul_le_mul (by omega) (by omega) (by omega) (by omega)
    have e1 : (2 * m + 1) * (2 * m + 1) = 4 * (m * m) + 4 * m + 1 := by grind
    have q1 := sqN (x - y)
    have q2 := sqN (x - z)
    have q3 := sqN (x - w)
    have q4 := sqN (y - z)
    have q5 := sqN (y - w)
    have q6 := sqN (z - w)
    have e2 : (x + y + z + w) * (x + y + z + w) = 4 * (x * x + (y * y + (z * z + w * w))) - (x - y) * (x - y) - (x - z) * (x - z) - (x - w) * (x - w) - (y - z) * (y - z) - (y - w) * (y - w) - (z - w) * (z - w) := by grind
    omega
  · exact hl
/-- One number's square after a pass. -/
theorem sq_both {u t m : Int} (e0 : -m ≤ 2 * (u * m - t * 1073741824)) (e1 : 2 * (u * m - t * 1073741824) ≤ m) :
    -(4294967296 * (absV t * m)) ≤ 4 * (u * u * (m * m)) - 4611686018427387904 * (t * t) ∧ 4 * (u * u * (m * m)) - 4611686018427387904 * (t * t) ≤ 4294967296 * (absV t * m) + m * m := by
  have p := prod_lt (a := t) (b := 2 * (u * m - t * 1073741824)) (k := absV t) (l := m) (Int.le_refl _) (by unfold absV; split <;> omega)
  have q := prod_lt (a := 2 * (u * m - t * 1073741824)) (b := 2 * (u * m - t * 1073741824)) (k := m) (l := m) (by unfold absV; split <;> omega) (by unfold absV; split <;> omega)
  have q0 := sqN (2 * (u * m - t * 1073741824))
  have g1 : t * (2 * (u * m - t * 1073741824)) = 2 * (t * u * m) - 2147483648 * (t * t) := by grind
  have g2 : 2 * (u * m - t * 1073741824) * (2 * (u * m - t * 1073741824)) = 4 * (u * u * (m * m)) - 8589934592 * (t * u * m) + 4611686018427387904 * (t * t) := by grind
  omega
/-- Near One times One. -/
def nearU (N : Int) : Prop := -7516192768 ≤ 2 * (N - 1152921504606846976) ∧ 2 * (N - 1152921504606846976) ≤ 7516192768
theorem pass2 {a b c d m : Int} (hm : 3221225472 ≤ 4 * m) (hm1 : m ≤ 1152921504606846976) (ha : a ≤ m ∧ -a ≤ m) (hb : b ≤ m ∧ -b ≤ m) (hc : c ≤ m ∧ -c ≤ m) (hd : d ≤ m ∧ -d ≤ m) (hN : m * m - m + 1 ≤ n4 a b c d) (hN1 : n4 a b c d ≤ m * m + m) :
    nearU (n4 (divPV a m 30) (divPV b m 30) (divPV c m 30) (divPV d m 30)) := by
  have hn : 1 ≤ m := by omega
  have a1 := sq_both (dpass ha.1 ha.2 hn hm1).1.1 (dpass ha.1 ha.2 hn hm1).1.2
  have b1 := sq_both (dpass hb.1 hb.2 hn hm1).1.1 (dpass hb.1 hb.2 hn hm1).1.2
  have c1 := sq_both (dpass hc.1 hc.2 hn hm1).1.1 (dpass hc.1 hc.2 hn hm1).1.2
  have d1 := sq_both (dpass hd.1 hd.2 hn hm1).1.1 (dpass hd.1 hd.2 hn hm1).1.2
  have cs := cs4 (by omega) hN1
  generalize divPV a m 30 = a' at *
  generalize divPV b m 30 = b' at *
  generalize divPV c m 30 = c' at *
  generalize divPV d m 30 = d' at *
  have hp : 0 < m * m := Int.mul_pos (by omega) (by omega)
  have hs : (absV a + absV b + absV c + absV d) * m ≤ 2 * m * m := Int.mul_le_mul_of_nonneg_right cs (by omega)
  have es : (absV a + absV b + absV c + absV d) * m = absV a * m + absV b * m + absV c * m + absV d * m := by grind
  have e2 : 2 * m * m = 2 * (m * m) := by grind
  have h4 : 3221225472 * m ≤ 4 * m * m := Int.mul_le_mul_of_nonneg_right hm (by omega)
  have e4 : 4 * m * m = 4 * (m * m) := by grind
  unfold nearU
  unfold n4 at *
  have e : (a' * a' + (b' * b' + (c' * c' + d' * d'))) * (m * m) = a' * a' * (m * m) + (b' * b' * (m * m) + (c' * c' * (m * m) + d' * d' * (m * m))) := by grind
  generalize a' * a' + (b' * b' + (c' * c' + d' * d')) = U at *
  constructor
  · refine Int.le_of_mul_le_mul_right (a := m * m) ?_ hp
    have e5 : 2 * (U - 1152921504606846976) * (m * m) = 2 * (U * (m * m)) - 2305843009213693952 * (m * m) := by grind
    rw [e5]
    omega
  · refine Int.le_of_mul_le_mul_right (a := m * m) ?_ hp
    have e5 : 2 * (U - 1152921504606846976) * (m * m) = 2 * (U * (m * m)) - 2305843009213693952 * (m * m) := by grind
    rw [e5]
    omega
end Go.Proofs.Ytdkmiliehlhmbaa

/- Units: what Unit makes of any numbers is near a Unit; again it is near itself. -/
namespace Go.Proofs.Ytdkmiliehlhmbaa
open Go.Lr
set_option linter.unusedVariables false
set_option linter.unusedSimpArgs false

/-- Numbers of a Unit. -/
structure UnitQ (a b c d : Int) : Prop where
  ha : -1073741824 ≤ a ∧ a ≤ 1073741824
  hb : -1073741824 ≤ b ∧ b ≤ 1073741824
  hc : -1073741824 ≤ c ∧ c ≤ 1073741824
  hd : -1073741824 ≤ d ∧ d ≤ 1073741824
  hn : nearU (n4 a b c d)
theorem inS_bd {a : Int} (h : -1073741824 ≤ a ∧ a ≤ 1073741824) : inS a := by unfold inS; omega
theorem n4_pos {a b c d : Int} (h : ¬ (a = 0 ∧ b = 0 ∧ c = 0 ∧ d = 0)) : 1 ≤ n4 a b c d := by
  have pos : ∀ x : Int, x ≠ 0 → 1 ≤ x * x := by
    intro x hx
    have h1 : x * x ≠ 0 := by
      intro e
      rcases Int.mul_eq_zero.1 e with h | h <;> exact hx h
    have := sqN x
    omega
  have q0 := sqN a
  have q1 := sqN b
  have q2 := sqN c
  have q3 := sqN d
  have p0 := pos a
  have p1 := pos b
  have p2 := pos c
  have p3 := pos d
  unfold n4
  by_cases e0 : a = 0
  · by_cases e1 : b = 0
    · by_cases e2 : c = 0
      · by_cases e3 : d = 0
        · exact absurd ⟨e0, e1, e2, e3⟩ h
        · have := p3 e3; omega
      · have := p2 e2; omega
    · have := p1 e1; omega
  · have := p0 e0; omega
theorem uZ_pos {a b c d : Int} (h : uZ a b c d = false) : 1 ≤ n4 (satV a) (satV b) (satV c) (satV d) := by
  refine n4_pos fun ⟨e0, e1, e2, e3⟩ => ?_
  unfold uZ at h
  rw [e0, e1, e2, e3] at h
  exact absurd h (by decide)
theorem len_big {m N : Int} (h0 : 0 ≤ m) (h1 : N ≤ m * m + m) (h2 : 3458764496640671744 ≤ 4 * N) : 3221225472 ≤ 4 * m := by
  rcases Int.lt_or_le (4 * m) 3221225472 with h | h
  · exfalso
    have : m * m ≤ 805306367 * 805306367 := Int.mul_le_mul (by omega) (by omega) (by omega) (by omega)
    omega
  · exact h
theorem n4_le {a b c d : Int} (ha : -1073741824 ≤ a ∧ a ≤ 1073741824) (hb : -1073741824 ≤ b ∧ b ≤ 1073741824) (hc : -1073741824 ≤ c ∧ c ≤ 1073741824) (hd : -1073741824 ≤ d ∧ d ≤ 1073741824) : n4 a b c d ≤ 4611686018427387904 := by
  have sq : ∀ x : Int, -1073741824 ≤ x ∧ x ≤ 1073741824 → x * x ≤ 1152921504606846976 := by
    intro x hx
    exact (prod_lt (a := x) (b := x) (k := 1073741824) (l := 1073741824) (by unfold absV; split <;> omega) (by unfold absV; split <;> omega)).2
  have p0 := sq a ha
  have p1 := sq b hb
  have p2 := sq c hc
  have p3 := sq d hd
  unfold n4
  omega
/-- The second pass. -/
theorem second {a b c d : Int} (ha : -1073741824 ≤ a ∧ a ≤ 1073741824) (hb : -1073741824 ≤ b ∧ b ≤ 1073741824) (hc : -1073741824 ≤ c ∧ c ≤ 1073741824) (hd : -1073741824 ≤ d ∧ d ≤ 1073741824) (h : 3458764496640671744 ≤ 4 * n4 a b c d) :
    UnitQ (divPV a (hypV [a, b, c, d]) 30) (divPV b (hypV [a, b, c, d]) 30) (divPV c (hypV [a, b, c, d]) 30) (divPV d (hypV [a, b, c, d]) 30) := by
  obtain ⟨m0, mA, mB, mC, mD, m1, m2⟩ := hyp4 (inS_bd ha) (inS_bd hb) (inS_bd hc) (inS_bd hd) (by omega)
  have le := n4_le ha hb hc hd
  obtain ⟨m3, -⟩ := m2 (by omega)
  have big := len_big (by omega) m3 h
  exact ⟨(dpass mA.1 mA.2 m0.1 m0.2).2.1, (dpass mB.1 mB.2 m0.1 m0.2).2.1, (dpass mC.1 mC.2 m0.1 m0.2).2.1, (dpass mD.1 mD.2 m0.1 m0.2).2.1, pass2 big m0.2 mA mB mC mD m1 m3⟩
/-- What Unit makes is a Unit. -/
theorem unit_ok (a b c d : Int) : UnitQ (uV0 a b c d) (uV1 a b c d) (uV2 a b c d) (uV3 a b c d) := by
  unfold uV0 uV1 uV2 uV3
  rcases bool_cases (uZ a b c d) with h | h
  · rw [cond_t h, cond_t h, cond_t h, cond_t h]
    exact ⟨by omega, by omega, by omega, by omega, by unfold nearU n4; omega⟩
  · rw [cond_f h, cond_f h, cond_f h, cond_f h]
    have hp := uZ_pos h
    have sa := inS_sat a
    have sb := inS_sat b
    have sc := inS_sat c
    have sd := inS_sat d
    unfold uE
    generalize satV a = a at *
    generalize satV b = b at *
    generalize satV c = c at *
    generalize satV d = d at *
    obtain ⟨m0, mA, mB, mC, mD, m1, -⟩ := hyp4 sa sb sc sd hp
    refine second (dpass mA.1 mA.2 m0.1 m0.2).2.1 (dpass mB.1 mB.2 m0.1 m0.2).2.1 (dpass mC.1 mC.2 m0.1 m0.2).2.1 (dpass mD.1 mD.2 m0.1 m0.2).2.1 ?_
    exact pass1 m0.1 m0.2 mA mB mC mD m1
end Go.Proofs.Ytdkmiliehlhmbaa

/- Products of Units: plain bounds. -/
namespace Go.Proofs.Ytdkmiliehlhmbaa
open Go.Lr
set_option linter.unusedVariables false
set_option linter.unusedSimpArgs false

def q0 (a0 a1 a2 a3 b0 b1 b2 b3 : Int) : Int := a0 * b0 - a1 * b1 - a2 * b2 - a3 * b3
def q1 (a0 a1 a2 a3 b0 b1 b2 b3 : Int) : Int := a0 * b1 + a1 * b0 + a2 * b3 - a3 * b2
def q2 (a0 a1 a2 a3 b0 b1 b2 b3 : Int) : Int := a0 * b2 - a1 * b3 + a2 * b0 + a3 * b1
def q3 (a0 a1 a2 a3 b0 b1 b2 b3 : Int) : Int := a0 * b3 + a1 * b2 - a2 * b1 + a3 * b0
/-- Within 2^33. -/
def sm (x : Int) : Prop := -8589934592 ≤ x ∧ x ≤ 8589934592
def one (x : Int) : Prop := -1073741824 ≤ x ∧ x ≤ 1073741824
theorem one.sm {x : Int} (h : one x) : sm x := by unfold one Go.Proofs.Ytdkmiliehlhmbaa.sm at *; omega
theorem sm.inS {x : Int} (h : sm x) : Go.Proofs.Ytdkmiliehlhmbaa.inS x := by unfold sm Go.Proofs.Ytdkmiliehlhmbaa.inS at *; omega
theorem sm.neg {x : Int} (h : sm x) : sm (-x) := by unfold sm at *; omega
theorem one.neg {x : Int} (h : one x) : one (-x) := by unfold one at *; omega
theorem sm.mul {x y : Int} (h : sm x) (g : sm y) : -73786976294838206464 ≤ x * y ∧ x * y ≤ 73786976294838206464 := by
  unfold sm at *
  exact prod_lt (a := x) (b := y) (k := 8589934592) (l := 8589934592) (by unfold absV; split <;> omega) (by unfold absV; split <;> omega)
theorem one.mul {x y : Int} (h : one x) (g : one y) : -1152921504606846976 ≤ x * y ∧ x * y ≤ 1152921504606846976 := by
  unfold one at *
  exact prod_lt (a := x) (b := y) (k := 1073741824) (l := 1073741824) (by unfold absV; split <;> omega) (by unfold absV; split <;> omega)
/-- p is w by 2^30, rounded. -/
def RN (p w : Int) : Prop := -1073741824 ≤ 2 * (p * 1073741824 - w) ∧ 2 * (p * 1073741824 - w) ≤ 1073741824
theorem rn_rnd (w : Int) : RN (rndV w 30) w := by
  have h := rnd_bd w 30
  have e : pow2 30 = 1073741824 := rfl
  rw [e] at h
  exact h
theorem rs30 {w : Int} (h0 : -1208925819614629174706176 ≤ w) (h1 : w ≤ 1208925819614629174706176) : rndS w 30 = rndV w 30 ∧ rndH w 30 = false := by
  have h := rn_rnd w
  unfold RN at h
  have e : Int.toNat 30 = 30 := rfl
  unfold rndS rndH
  rw [e, if_neg (by decide), if_neg (by decide), sat_in (by omega) (by omega), satH_in (by omega) (by omega)]
  exact ⟨rfl, rfl⟩
theorem dotO {x0 x1 x2 x3 y0 y1 y2 y3 w : Int} (a0 : sm x0) (a1 : sm x1) (a2 : sm x2) (a3 : sm x3) (b0 : sm y0) (b1 : sm y1) (b2 : sm y2) (b3 : sm y3) (hw : x0 * y0 + (x1 * y1 + (x2 * y2 + (x3 * y3 + 0))) = w) :
    dotV 30 [x0, x1, x2, x3] [y0, y1, y2, y3] = rndV w 30 ∧ dotH 30 [x0, x1, x2, x3] [y0, y1, y2, y3] = false := by
  obtain ⟨e, f⟩ := dot4 a0.inS a1.inS a2.inS a3.inS b0.inS b1.inS b2.inS b3.inS
  rw [e, f, hw]
  have m0 := a0.mul b0
  have m1 := a1.mul b1
  have m2 := a2.mul b2
  have m3 := a3.mul b3
  exact rs30 (by omega) (by omega)
theorem sm.sat {x : Int} (h : sm x) : satV x = x ∧ satH x = false := ⟨sat_in h.inS.1 h.inS.2, satH_in h.inS.1 h.inS.2⟩
end Go.Proofs.Ytdkmiliehlhmbaa

/- Near of both answers' Units: its summary; the laws of chapter 6 see Units and products by name. -/
namespace Go.Proofs.Ytdkmiliehlhmbaa
open Go.Lr
set_option linter.unusedVariables false
set_option linter.unusedSimpArgs false

def nk (a : Int) : Int := wr IntKind.i64 ((wr IntKind.i64 (a * a)).tdiv 4)
def nj (a : Int) : Int := (wr IntKind.i64 (a * a)).tmod 4
def nh1 (a0 : Int) : Int := wr IntKind.i64 (0 + nk a0)
def nh2 (a0 a1 : Int) : Int := wr IntKind.i64 (nh1 a0 + nk a1)
def nh3 (a0 a1 a2 : Int) : Int := wr IntKind.i64 (nh2 a0 a1 + nk a2)
def nh4 (a0 a1 a2 a3 : Int) : Int := wr IntKind.i64 (nh3 a0 a1 a2 + nk a3)
def nr4 (a0 a1 a2 a3 : Int) : Int := wr IntKind.i64 (wr IntKind.i64 (wr IntKind.i64 (wr IntKind.i64 (0 + nj a0) + nj a1) + nj a2) + nj a3)
def nd (a0 a1 a2 a3 : Int) : Int := wr IntKind.i64 (wr IntKind.i64 (4 * wr IntKind.i64 (nh4 a0 a1 a2 a3 - 288230376151711744)) + nr4 a0 a1 a2 a3)
def unitN : List LV → Bool → Option (LV × Bool × List (Bool × Bool))
  | [.v (.agg [.int .i64 a0, .int .i64 a1, .int .i64 a2, .int .i64 a3])], hb => some (.v (.agg [.int .i64 (uV0 a0 a1 a2 a3), .int .i64 (uV1 a0 a1 a2 a3), .int .i64 (uV2 a0 a1 a2 a3), .int .i64 (uV3 a0 a1 a2 a3)]), uFl hb a0 a1 a2 a3, [])
  | _, _ => none
theorem sumUnitN : SumOK Try.prog 54 (accSum 41 unitN) := by
  refine sumpu.acc_re fun args hb v h' cs hF _ => ?_
  unfold unitN at hF
  split at hF
  · cases hF; exact ⟨[], rfl, ae_nil⟩
  · cases hF
-- @@end
end Go.Proofs.Ytdkmiliehlhmbaa

/- All summaries for the laws of chapter 7 about Units. -/
namespace Go.Proofs.Ytdkmiliehlhmbaa
open Go.Lr
noncomputable def S46 : FuncId → Option SumK := more S44 54 (accSum 41 unitN)
theorem sound46 : Sound Try.prog S46 := sound44.more sumUnitN
end Go.Proofs.Ytdkmiliehlhmbaa

/- The matrices of Units: their entries. -/
namespace Go.Proofs.Ytdkmiliehlhmbaa
open Go.Lr
set_option linter.unusedVariables false
set_option linter.unusedSimpArgs false

def rm0 (s0 s1 s2 s3 : Int) : Int := s1V 1 1 (-1) (-1) s0 s1 s2 s3
def rm1 (s0 s1 s2 s3 : Int) : Int := t1V s1 s2 (wr IntKind.i64 (0 - s0)) s3
def rm2 (s0 s1 s2 s3 : Int) : Int := t1V s1 s3 s0 s2
def rm3 (s0 s1 s2 s3 : Int) : Int := t1V s1 s2 s0 s3
def rm4 (s0 s1 s2 s3 : Int) : Int := s1V 1 (-1) 1 (-1) s0 s1 s2 s3
def rm5 (s0 s1 s2 s3 : Int) : Int := t1V s2 s3 (wr IntKind.i64 (0 - s0)) s1
def rm6 (s0 s1 s2 s3 : Int) : Int := t1V s1 s3 (wr IntKind.i64 (0 - s0)) s2
def rm7 (s0 s1 s2 s3 : Int) : Int := t1V s2 s3 s0 s1
def rm8 (s0 s1 s2 s3 : Int) : Int := s1V 1 (-1) (-1) 1 s0 s1 s2 s3
def rmF (h : Bool) (s0 s1 s2 s3 : Int) : Bool := h || s1H 1 1 (-1) (-1) s0 s1 s2 s3 || t1H s1 s2 (wr IntKind.i64 (0 - s0)) s3 || t1H s1 s3 s0 s2 || t1H s1 s2 s0 s3 || s1H 1 (-1) 1 (-1) s0 s1 s2 s3 || t1H s2 s3 (wr IntKind.i64 (0 - s0)) s1 || t1H s1 s3 (wr IntKind.i64 (0 - s0)) s2 || t1H s2 s3 s0 s1 || s1H 1 (-1) (-1) 1 s0 s1 s2 s3
def mx0 (s0 s1 s2 s3 : Int) : Int := s0 * s0 + s1 * s1 - s2 * s2 - s3 * s3
def mx1 (s0 s1 s2 s3 : Int) : Int := 2 * (s1 * s2) - 2 * (s0 * s3)
def mx2 (s0 s1 s2 s3 : Int) : Int := 2 * (s1 * s3) + 2 * (s0 * s2)
def mx3 (s0 s1 s2 s3 : Int) : Int := 2 * (s1 * s2) + 2 * (s0 * s3)
def mx4 (s0 s1 s2 s3 : Int) : Int := s0 * s0 - s1 * s1 + s2 * s2 - s3 * s3
def mx5 (s0 s1 s2 s3 : Int) : Int := 2 * (s2 * s3) - 2 * (s0 * s1)
def mx6 (s0 s1 s2 s3 : Int) : Int := 2 * (s1 * s3) - 2 * (s0 * s2)
def mx7 (s0 s1 s2 s3 : Int) : Int := 2 * (s2 * s3) + 2 * (s0 * s1)
def mx8 (s0 s1 s2 s3 : Int) : Int := s0 * s0 - s1 * s1 - s2 * s2 + s3 * s3
theorem rm_eq {s0 s1 s2 s3 : Int} (h0 : one s0) (h1 : one s1) (h2 : one s2) (h3 : one s3) :
    rm0 s0 s1 s2 s3 = rndV (mx0 s0 s1 s2 s3) 30 ∧ rm1 s0 s1 s2 s3 = rndV (mx1 s0 s1 s2 s3) 30 ∧ rm2 s0 s1 s2 s3 = rndV (mx2 s0 s1 s2 s3) 30 ∧ rm3 s0 s1 s2 s3 = rndV (mx3 s0 s1 s2 s3) 30 ∧ rm4 s0 s1 s2 s3 = rndV (mx4 s0 s1 s2 s3) 30 ∧ rm5 s0 s1 s2 s3 = rndV (mx5 s0 s1 s2 s3) 30 ∧ rm6 s0 s1 s2 s3 = rndV (mx6 s0 s1 s2 s3) 30 ∧ rm7 s0 s1 s2 s3 = rndV (mx7 s0 s1 s2 s3) 30 ∧ rm8 s0 s1 s2 s3 = rndV (mx8 s0 s1 s2 s3) 30 ∧ ∀ h, rmF h s0 s1 s2 s3 = h := by
  have w0 := wneg h0.sm.inS
  have e0 : s1V 1 1 (-1) (-1) s0 s1 s2 s3 = rndV (mx0 s0 s1 s2 s3) 30 ∧ s1H 1 1 (-1) (-1) s0 s1 s2 s3 = false := by
    unfold s1V s1H
    rw [wone h0.sm.inS, wone h1.sm.inS, wmone h2.sm.inS, wmone h3.sm.inS]
    exact dotO h0.sm h1.sm h2.sm h3.sm h0.sm h1.sm h2.sm.neg h3.sm.neg (by unfold mx0; grind)
  have e1 : t1V s1 s2 (wr IntKind.i64 (0 - s0)) s3 = rndV (mx1 s0 s1 s2 s3) 30 ∧ t1H s1 s2 (wr IntKind.i64 (0 - s0)) s3 = false := by
    unfold t1V t1H
    rw [w0]
    exact dotO h1.sm h1.sm h0.sm.neg h0.sm.neg h2.sm h2.sm h3.sm h3.sm (by unfold mx1; grind)
  have e2 : t1V s1 s3 s0 s2 = rndV (mx2 s0 s1 s2 s3) 30 ∧ t1H s1 s3 s0 s2 = false := by
    unfold t1V t1H
    exact dotO h1.sm h1.sm h0.sm h0.sm h3.sm h3.sm h2.sm h2.sm (by unfold mx2; grind)
  have e3 : t1V s1 s2 s0 s3 = rndV (mx3 s0 s1 s2 s3) 30 ∧ t1H s1 s2 s0 s3 = false := by
    unfold t1V t1H
    exact dotO h1.sm h1.sm h0.sm h0.sm h2.sm h2.sm h3.sm h3.sm (by unfold mx3; grind)
  have e4 : s1V 1 (-1) 1 (-1) s0 s1 s2 s3 = rndV (mx4 s0 s1 s2 s3) 30 ∧ s1H 1 (-1) 1 (-1) s0 s1 s2 s3 = false := by
    unfold s1V s1H
    rw [wone h0.sm.inS, wmone h1.sm.inS, wone h2.sm.inS, wmone h3.sm.inS]
    exact dotO h0.sm h1.sm h2.sm h3.sm h0.sm h1.sm.neg h2.sm h3.sm.neg (by unfold mx4; grind)
  have e5 : t1V s2 s3 (wr IntKind.i64 (0 - s0)) s1 = rndV (mx5 s0 s1 s2 s3) 30 ∧ t1H s2 s3 (wr IntKind.i64 (0 - s0)) s1 = false := by
    unfold t1V t1H
    rw [w0]
    exact dotO h2.sm h2.sm h0.sm.neg h0.sm.neg h3.sm h3.sm h1.sm h1.sm (by unfold mx5; grind)
  have e6 : t1V s1 s3 (wr IntKind.i64 (0 - s0)) s2 = rndV (mx6 s0 s1 s2 s3) 30 ∧ t1H s1 s3 (wr IntKind.i64 (0 - s0)) s2 = false := by
    unfold t1V t1H
    rw [w0]
    exact dotO h1.sm h1.sm h0.sm.neg h0.sm.neg h3.sm h3.sm h2.sm h2.sm (by unfold mx6; grind)
  have e7 : t1V s2 s3 s0 s1 = rndV (mx7 s0 s1 s2 s3) 30 ∧ t1H s2 s3 s0 s1 = false := by
    unfold t1V t1H
    exact dotO h2.sm h2.sm h0.sm h0.sm h3.sm h3.sm h1.sm h1.sm (by unfold mx7; grind)
  have e8 : s1V 1 (-1) (-1) 1 s0 s1 s2 s3 = rndV (mx8 s0 s1 s2 s3) 30 ∧ s1H 1 (-1) (-1) 1 s0 s1 s2 s3 = false := by
    unfold s1V s1H
    rw [wone h0.sm.inS, wmone h1.sm.inS, wmone h2.sm.inS, wone h3.sm.inS]
    exact dotO h0.sm h1.sm h2.sm h3.sm h0.sm h1.sm.neg h2.sm.neg h3.sm (by unfold mx8; grind)
  refine ⟨e0.1, e1.1, e2.1, e3.1, e4.1, e5.1, e6.1, e7.1, e8.1, fun h => ?_⟩
  unfold rmF
  rw [e0.2, e1.2, e2.2, e3.2, e4.2, e5.2, e6.2, e7.2, e8.2]
  simp
-- @@end
end Go.Proofs.Ytdkmiliehlhmbaa

/- All summaries for the laws about levels: headings of the second answer by name. -/
namespace Go.Proofs.Ytdkmiliehlhmbaa
open Go.Lr
set_option linter.unusedVariables false
def fyA (a : Int) : Int := mulV (wrapV a) 536870912 30
def fy0 (a : Int) : Int := uV0 (cosV (fyA a)) 0 0 (sinV (fyA a))
def fy1 (a : Int) : Int := uV1 (cosV (fyA a)) 0 0 (sinV (fyA a))
def fy2 (a : Int) : Int := uV2 (cosV (fyA a)) 0 0 (sinV (fyA a))
def fy3 (a : Int) : Int := uV3 (cosV (fyA a)) 0 0 (sinV (fyA a))
def fyFl (hb : Bool) (a : Int) : Bool := uFl (sinH (fyA a) (cosH (fyA a) (hb || mulH (wrapV a) 536870912 30))) (cosV (fyA a)) 0 0 (sinV (fyA a))
def fyN : List LV → Bool → Option (LV × Bool × List (Bool × Bool))
  | [.v (.one (.int .i64 a))], hb => some (.v (.agg [.int .i64 (fy0 a), .int .i64 (fy1 a), .int .i64 (fy2 a), .int .i64 (fy3 a)]), fyFl hb a, [])
  | _, _ => none
theorem sumRfyN (ty : TypeId) : SumOK Try.prog 6 (accSum ty fyN) := by
  refine (sumRfy ty).acc_re fun args hb v h' cs hF _ => ?_
  unfold fyN at hF
  split at hF
  · cases hF; exact ⟨[], rfl, ae_nil⟩
  · cases hF
theorem sumPfyN : SumOK Try.prog 21 (accSum 41 fyN) := by
  refine sumPfy.acc_re fun args hb v h' cs hF _ => ?_
  unfold fyN at hF
  split at hF
  · cases hF; exact ⟨[], rfl, ae_nil⟩
  · cases hF
/-- A matrix by its entries' names. -/
def ofN : List LV → Bool → Option (LV × Bool × List (Bool × Bool))
  | [.v (.agg [.int .i64 a0, .int .i64 a1, .int .i64 a2, .int .i64 a3])], hb => some (.v (.agg [.int .i64 (rm0 (satV a0) (satV a1) (satV a2) (satV a3)), .int .i64 (rm1 (satV a0) (satV a1) (satV a2) (satV a3)), .int .i64 (rm2 (satV a0) (satV a1) (satV a2) (satV a3)), .int .i64 (rm3 (satV a0) (satV a1) (satV a2) (satV a3)), .int .i64 (rm4 (satV a0) (satV a1) (satV a2) (satV a3)), .int .i64 (rm5 (satV a0) (satV a1) (satV a2) (satV a3)), .int .i64 (rm6 (satV a0) (satV a1) (satV a2) (satV a3)), .int .i64 (rm7 (satV a0) (satV a1) (satV a2) (satV a3)), .int .i64 (rm8 (satV a0) (satV a1) (satV a2) (satV a3))]), rmF (hb || satH a0 || satH a1 || satH a2 || satH a3) (satV a0) (satV a1) (satV a2) (satV a3), [])
  | _, _ => none
theorem sumOfN : SumOK Try.prog 13 (accSum 41 ofN) := by
  refine sumrof.acc_re fun args hb v h' cs hF _ => ?_
  unfold ofN at hF
  split at hF
  · cases hF; exact ⟨[], rfl, ae_nil⟩
  · cases hF
noncomputable def S47 : FuncId → Option SumK := more (more (more S46 13 (accSum 41 ofN)) 21 (accSum 41 fyN)) 6 (accAny fyN)
theorem sound47 : Sound Try.prog S47 := ((sound46.more sumOfN).more sumPfyN).more (accAny_ok sumRfyN)
-- @@end
end Go.Proofs.Ytdkmiliehlhmbaa

/- The local evaluator: summaries of functions that hand out a new slice, made by running them. -/
namespace Go.Lr
open Go.RowKit

/-- References to the one block j, told by another number. -/
def renA (j nb : Nat) : At → Option At
  | .sl b o n c => match Nat.beq b j with
    | true => some (.sl nb o n c)
    | false => none
  | .slu b n => match Nat.beq b j with
    | true => some (.slu nb n)
    | false => none
  | a => match a.ok noP with
    | true => some a
    | false => none
def renV1 (j nb : Nat) : V1 → Option V1
  | .one a => match renA j nb a with
    | some b => some (.one b)
    | none => none
  | .agg l => match okL noP l with
    | true => some (.agg l)
    | false => none
def renVs (j nb : Nat) : List V1 → Option (List V1)
  | [] => some []
  | a :: l => match renV1 j nb a, renVs j nb l with
    | some b, some r => some (b :: r)
    | _, _ => none
def renLV (j nb : Nat) : LV → Option LV
  | .v x => match renV1 j nb x with
    | some y => some (.v y)
    | none => none
  | .tup l => match renVs j nb l with
    | some r => some (.tup r)
    | none => none
/-- The first slice's block. -/
def slOf : List V1 → Option Nat
  | [] => none
  | .one (.sl b _ _ _) :: _ => some b
  | .one (.slu b _) :: _ => some b
  | _ :: l => slOf l
def slOfLV : LV → Option Nat
  | .v x => slOf [x]
  | .tup l => slOf l

section
variable {E E' : Env} {j nb : Nat}
theorem renA_den {a b : At} (h : renA j nb a = some b) (he : E' nb = E j) : a.den E = b.den E' := by
  unfold renA at h
  split at h
  · rename_i b' o n c
    split at h
    · rename_i hb
      rw [nbeq] at hb
      have hb' : b' = j := by simpa using hb
      cases h
      subst hb'
      simp only [At.den, he]
    · cases h
  · rename_i b' n
    split at h
    · rename_i hb
      rw [nbeq] at hb
      have hb' : b' = j := by simpa using hb
      cases h
      subst hb'
      simp only [At.den, he]
    · cases h
  · split at h
    · rename_i hok
      cases h
      have h1 := denA_noP (E := E) (l := [a]) (by simp [okL, hok])
      have h2 := denA_noP (E := E') (l := [a]) (by simp [okL, hok])
      simp only [List.map_cons, List.map_nil, List.cons.injEq, and_true] at h1 h2
      rw [h1, h2]
    · cases h
theorem renV1_den {a b : V1} (h : renV1 j nb a = some b) (he : E' nb = E j) : a.den E = b.den E' := by
  unfold renV1 at h
  split at h
  · split at h
    · rename_i hb
      cases h
      exact renA_den hb he
    · cases h
  · split at h
    · rename_i hok
      cases h
      simp only [V1.den, denA_noP (E := E) hok, denA_noP (E := E') hok]
    · cases h
theorem renVs_den : ∀ {l r : List V1}, renVs j nb l = some r → E' nb = E j → l.map (V1.den E) = r.map (V1.den E')
  | [], r, h, he => by simp only [renVs] at h; cases h; rfl
  | a :: l, r, h, he => by
    simp only [renVs] at h
    split at h
    · rename_i b r' hb hr
      cases h
      simp only [List.map_cons, renV1_den hb he, renVs_den hr he]
    · cases h
theorem renLV_den {v v' : LV} (h : renLV j nb v = some v') (he : E' nb = E j) : v.den E = v'.den E' := by
  unfold renLV at h
  split at h
  · split at h
    · rename_i hb
      cases h
      exact renV1_den hb he
    · cases h
  · split at h
    · rename_i hb
      cases h
      simp only [LV.den, renVs_den hb he]
    · cases h
end

section
variable {P : Program} {S : FuncId → Option SumK} {z : Md}

def autoN (P : Program) (S : FuncId → Option SumK) (z : Md) (n : Nat) (f : FuncId) : Sum := fun args =>
  match args with
  | x :: rest => match refTo x, plainVs rest with
    | some (b, y), true => some ⟨[], [b], fun _ wB nb => match wB with
      | [k] => match okL noP k.cells with
        | true => match runF P S z n f (y :: rest) [(0, k)] 1 [] with
          | some (v, m', _, cs) => match getM m' 0, slOfLV v with
            | some k', some j => match getM m' j, renLV j nb v with
              | some kj, some v' => match Nat.beq k'.es k.es, okL noP k'.cells, okL noP kj.cells, Nat.ble 1 j with
                | true, true, true, true => some ⟨v', [k'], [kj], cs⟩
                | _, _, _, _ => none
              | _, _ => none
            | _, _ => none
          | none => none
        | false => none
      | _ => none⟩
    | _, _ => none
  | [] => none

theorem autoN_ok (hs : Sound P S) {n : Nat} {f : FuncId} (ho : Own P f) : SumOK P f (autoN P S z n f) := by
  intro args t g nb p rdB wrB ans ws E w hs' hr hw _ hgo hz hc hrel hg hargs hn
  unfold autoN at hs'
  split at hs'
  · rename_i x rest
    split at hs'
    · rename_i b y href hp
      cases hs'
      simp only at hgo hw
      split at hgo
      · rename_i k
        split at hgo
        · rename_i hk
          split at hgo
          · rename_i v m' nb' cs hrun
            split at hgo
            · rename_i k' j hk' hj
              split at hgo
              · rename_i kj v' hkj hren
                split at hgo
                · rename_i hes hok' hokj hj1
                  cases hgo
                  obtain ⟨q, r', hq, hr', hrr⟩ := liveAll_cons hw
                  cases liveAll_nil hr'
                  cases hrr
                  simp only [zipW] at hz
                  cases hz
                  rw [nbeq] at hes
                  have hes' : k'.es = k.es := by simpa using hes
                  have hj1' : 1 ≤ j := Nat.le_of_ble_eq_true hj1
                  obtain ⟨r1, r2, r3⟩ := refTo_spec href E
                  have hp' := plainVs_iff.1 hp
                  obtain ⟨s', h1, h2, h3, h4⟩ := runF_body hrun
                  have hget : ∀ i c, getM [(0, k)] i = some c → i = 0 ∧ c = k := by
                    intro i c hc
                    rw [getM_cons] at hc
                    by_cases hi : i = 0
                    · rw [if_pos hi] at hc; cases hc; exact ⟨hi, rfl⟩
                    · rw [if_neg hi] at hc; simp [getM] at hc
                  obtain ⟨v0, b1, b2, b3, b4, b5, b6, b7, b8⟩ := (exec_sound (binOK P) hs.sums hs.mix hs.ng n).2.2.2 f (y :: rest) _ _ s' h1 (fun i c hc => by
                    obtain ⟨rfl, rfl⟩ := hget i c hc
                    exact ⟨Nat.zero_lt_one, okL_mono noP_below hk⟩) ⟨rfl, trivial⟩ (fun u hu => by
                    rcases List.mem_cons.1 hu with rfl | hu
                    · exact r2
                    · exact LV.ok_mono noP_below (hp' u hu))
                  cases b1
                  obtain ⟨r0, g1, g2, g3⟩ := hrel.blk b k hq
                  have hmr : MRel (fun _ => E b) ⟨.nil, 0, [(0, k)], 1, [], []⟩ w := by
                    refine ⟨⟨fun i c hc => ?_, fun i j hi hj _ => ?_⟩, fun i c hc => ?_, ⟨rfl, trivial⟩⟩
                    · obtain ⟨rfl, rfl⟩ := hget i c hc
                      exact ⟨r0, by rw [denA_noP hk] at g1 ⊢; exact g1, g2, g3⟩
                    · obtain ⟨c, hc⟩ := Option.isSome_iff_exists.1 hi
                      obtain ⟨d, hd⟩ := Option.isSome_iff_exists.1 hj
                      rw [(hget i c hc).1, (hget j d hd).1]
                    · obtain ⟨rfl, rfl⟩ := hget i c hc
                      exact ⟨Nat.zero_lt_one, okL_mono noP_below hk⟩
                  have hcall := b8 (by rw [Good, h4]; exact hc) (fun _ => E b) w hmr
                  have hargs' : ((y :: rest).map (LV.den fun _ => E b)) = (x :: rest).map (LV.den E) := by
                    rw [List.map_cons, List.map_cons, ← r1, denL_noP hp', denL_noP (E := E) hp']
                  rw [hargs'] at hcall
                  obtain ⟨fn, f1, f2, f3⟩ := ho
                  refine .inl ⟨fn, f1, f2, f3, hcall.mono ?_⟩
                  rintro e w' ⟨Eo, rfl, hmr', hx⟩
                  have hpnb : p nb = false := hn nb (Nat.le_refl _) (by show nb < nb + 1; omega)
                  have hgnb : g nb = none := by
                    cases hgn : g nb with
                    | none => rfl
                    | some c => have := (hg nb c hgn).1; rw [hpnb] at this; cases this
                  have hbnb : b ≠ nb := fun e => by rw [e, hgnb] at hq; cases hq
                  have hk0 := hmr'.rel.blk 0 k' (by rw [h2]; exact hk')
                  have hkjb := hmr'.rel.blk j kj (by rw [h2]; exact hkj)
                  have e0 : Eo 0 = E b := hx.agree 0 (by show 0 < 1; omega)
                  have hnew : w.heap.size ≤ (Eo j).1 := by
                    rcases hx.src j (by rw [h2, hkj]; rfl) with h | ⟨i, hi, he⟩
                    · exact h
                    · exfalso
                      have he' : (Eo j).1 = (Eo 0).1 := by rw [he, e0]
                      have := hmr'.rel.inj j 0 (by rw [h2, hkj]; rfl) (by rw [h2, hk']; rfl) he'
                      omega
                  have hframe : ∀ j, j < w.heap.size → j ≠ (E b).1 → w'.heap[j]? = w.heap[j]? := fun j hj hne => hx.frame j hj fun i hi he => hne he.symm
                  have hlt : ∀ i c, g i = some c → (E i).1 < w.heap.size := fun i c hi => by
                    obtain ⟨r, u1, -⟩ := hrel.blk i c hi
                    exact (Array.getElem?_eq_some_iff.1 u1).1
                  generalize hE' : (fun i => if i = nb then Eo j else E i) = E'
                  have En : E' nb = Eo j := by rw [← hE']; simp
                  have Eold : ∀ i, i ≠ nb → E' i = E i := fun i hi => by rw [← hE']; simp [hi]
                  have hpo : ∀ i, p i = true → E i = E' i := fun i hi => (Eold i fun e => by rw [e, hpnb] at hi; cases hi).symm
                  have hgold : ∀ i c, g i = some c → i ≠ nb := fun i c hi e => by rw [e, hgnb] at hi; cases hi
                  have agr : ∀ i, (i < nb ∨ nb + 1 ≤ i) → i ≠ nb := fun i hi => by omega
                  refine ⟨_, rfl, E', renLV_den hren En, ?_⟩
                  refine ⟨fun i hi => Eold i (agr i hi), ⟨fun i c hic => ?_, fun i i2 hi hi2 he => ?_⟩, hx.os, hx.tape, hx.output, hx.size, fun j hj hne => hframe j hj fun e => hne b (by simp [hq]) e.symm, fun i h1 h2 => ?_⟩
                  · simp only [nwG, wrG] at hic
                    by_cases hi : i = nb
                    · subst hi
                      rw [if_pos rfl] at hic
                      cases hic
                      obtain ⟨r, u1, u2, u3⟩ := hkjb
                      exact ⟨r, by rw [En, denA_noP hokj (E := E')]; rw [denA_noP hokj] at u1; exact u1, u2, fun hz => by rw [En]; exact u3 hz⟩
                    · rw [if_neg hi] at hic
                      by_cases hib : i = b
                      · subst hib
                        rw [if_pos rfl] at hic
                        cases hic
                        obtain ⟨r, u1, u2, u3⟩ := hk0
                        rw [e0] at u1 u3
                        exact ⟨r, by rw [Eold _ hi, denA_noP hok' (E := E')]; rw [denA_noP hok'] at u1; exact u1, u2, fun hz => by rw [Eold _ hi]; exact u3 hz⟩
                      · rw [if_neg hib] at hic
                        obtain ⟨r, u1, u2, u3⟩ := hrel.blk i c hic
                        refine ⟨r, ?_, u2, fun hz => by rw [Eold _ hi]; exact u3 hz⟩
                        rw [Eold _ hi, hframe _ (hlt i c hic) (fun e => hib (hrel.inj i b (by simp [hic]) (by simp [hq]) e)), u1, denL_congr (p := p) hpo (hg i c hic).2]
                  · simp only [nwG, wrG] at hi hi2
                    have old : ∀ a, (if a = nb then some kj else if a = b then some k' else g a).isSome = true → a ≠ nb → (g a).isSome = true := by
                      intro a ha hne
                      rw [if_neg hne] at ha
                      by_cases hab : a = b
                      · rw [hab, hq]; rfl
                      · rwa [if_neg hab] at ha
                    by_cases h1 : i = nb <;> by_cases h2' : i2 = nb
                    · rw [h1, h2']
                    · exfalso
                      have ho2 := old i2 hi2 h2'
                      obtain ⟨c, hc2⟩ := Option.isSome_iff_exists.1 ho2
                      have := hlt i2 c hc2
                      rw [h1, En, Eold _ h2'] at he
                      omega
                    · exfalso
                      have ho1 := old i hi h1
                      obtain ⟨c, hc1⟩ := Option.isSome_iff_exists.1 ho1
                      have := hlt i c hc1
                      rw [h2', En, Eold _ h1] at he
                      omega
                    · rw [Eold _ h1, Eold _ h2'] at he
                      exact hrel.inj i i2 (old i hi h1) (old i2 hi2 h2') he
                  · have : i = nb := by
                      have h2'' : i < nb + 1 := h2
                      omega
                    rw [this, En]
                    exact .inl hnew
                · cases hgo
              · cases hgo
            · cases hgo
          · cases hgo
        · cases hgo
      · cases hgo
    · cases hs'
  · cases hs'

def eqNL : List Nat → List Nat → Bool
  | [], [] => true
  | a :: l, b :: m => match Nat.beq a b with
    | true => eqNL l m
    | false => false
  | _, _ => false
theorem eqNL_spec : ∀ {l m : List Nat}, eqNL l m = true → l = m
  | [], [], _ => rfl
  | a :: l, b :: m, h => by
    simp only [eqNL] at h
    split at h
    · rename_i hab
      rw [nbeq] at hab
      have : a = b := by simpa using hab
      rw [this, eqNL_spec h]
    · cases h
  | [], b :: m, h => by cases h
  | a :: l, [], h => by cases h

/-- The one, or else the other. -/
def orS (s1 s2 : Sum) : Sum := fun args =>
  match s1 args, s2 args with
  | some t1, some t2 => match eqNL t1.rd t2.rd, eqNL t1.wr t2.wr with
    | true, true => some ⟨t1.rd, t1.wr, fun r w nb => match t1.go r w nb with
      | some a => some a
      | none => t2.go r w nb⟩
    | _, _ => none
  | _, _ => none
theorem orS_ok {f : FuncId} {s1 s2 : Sum} (h1 : SumOK P f s1) (h2 : SumOK P f s2) : SumOK P f (orS s1 s2) := by
  intro args t g nb p rdB wrB ans ws E w hs hr hw hnd hgo hz hc hrel hg hargs hn
  unfold orS at hs
  split at hs
  · rename_i t1 t2 e1 e2
    split at hs
    · rename_i hrd hwr
      cases hs
      simp only at hgo hr hw hnd hz ⊢
      split at hgo
      · rename_i a ha
        cases hgo
        exact h1 args t1 g nb p rdB wrB _ ws E w e1 hr hw hnd ha hz hc hrel hg hargs hn
      · rw [eqNL_spec hrd] at hr
        rw [eqNL_spec hwr] at hw hnd hz
        exact h2 args t2 g nb p rdB wrB ans ws E w e2 hr hw hnd hgo hz hc hrel hg hargs hn
    · cases hs
  · cases hs
end
end Go.Lr

/- Summaries made by running: functions that hand out new slices. -/
namespace Go.Proofs.Ytdkmiliehlhmbaa
open Go.Lr
noncomputable def V0 : FuncId → Option SumK := S24
theorem soundV0 : Sound Try.prog V0 := sound24
noncomputable def V1' : FuncId → Option SumK := more (more V0 25 (autoM Try.prog V0 Zl 2000 25)) 10 (orS (autoN Try.prog V0 Zl 2000 10) (autoM Try.prog V0 Zl 2000 10))
theorem soundV1' : Sound Try.prog V1' := (soundV0.more (autoM_ok soundV0 (own_of soundV0 Try.func25 (by kernel_rfl)))).more (orS_ok (autoN_ok soundV0 (own_of soundV0 Try.func10 (by kernel_rfl))) (autoM_ok soundV0 (own_of soundV0 Try.func10 (by kernel_rfl))))
noncomputable def V2' : FuncId → Option SumK := V1'
theorem soundV2' : Sound Try.prog V2' := soundV1'
noncomputable def S28 : FuncId → Option SumK := V2'
theorem sound28 : Sound Try.prog S28 := soundV2'
end Go.Proofs.Ytdkmiliehlhmbaa

/- The law folder's awake, of chapter 23: its run. -/
namespace Go.Proofs.Ytdkmiliehlhmbaa
open Go.Lr
theorem runAwakeL : (runF Try.prog S28 Zc 4000 5 [] [] 0 []).map (fun r => (r.1, r.2.2.2)) = some (B true, []) := by kernel_rfl
theorem sumAwakeL : SumOK Try.prog 5 (pureSum trueF) := pureSum_const sound28 (own_of sound28 Try.func5 (by kernel_rfl)) runAwakeL
end Go.Proofs.Ytdkmiliehlhmbaa

/- A summary less: the function is walked into again. -/
namespace Go.Lr
def dropS (S : FuncId → Option SumK) (f : FuncId) : FuncId → Option SumK := fun g =>
  match Nat.beq g f with
  | true => none
  | false => S g
theorem Sound.drop {P : Program} {S : FuncId → Option SumK} (h : Sound P S) (f : FuncId) : Sound P (dropS S f) := by
  refine ⟨fun g t hg => ?_, h.mix, h.ng⟩
  unfold dropS at hg
  split at hg
  · cases hg
  · exact h.sums g t hg
/-- Lists of decisions: so many that the kernel knows, so many that are true, false. -/
def nn : Nat → List (Option Bool) → List (Option Bool)
  | 0, l => l
  | n + 1, l => none :: nn n l
def tt : Nat → List (Option Bool) → List (Option Bool)
  | 0, l => l
  | n + 1, l => some true :: tt n l
def ff : Nat → List (Option Bool) → List (Option Bool)
  | 0, l => l
  | n + 1, l => some false :: ff n l
/-- The same asked so often. -/
def ra : Nat → Bool × Bool → List (Bool × Bool) → List (Bool × Bool)
  | 0, _, l => l
  | n + 1, c, l => c :: ra n c l
theorem ra_ok {c : Bool × Bool} {l : List (Bool × Bool)} (h : c.1 = c.2) (hl : ∀ d ∈ l, d.1 = d.2) : ∀ (n : Nat), ∀ d ∈ ra n c l, d.1 = d.2
  | 0 => hl
  | n + 1 => by
    intro d hd
    simp only [ra, List.mem_cons] at hd
    rcases hd with rfl | hd
    · exact h
    · exact ra_ok h hl n d hd
end Go.Lr

/- The local evaluator: summaries of any functions, made by running them with decisions: what is decided is asked. -/
namespace Go.Lr
open Go.RowKit

def autoAD (P : Program) (S : FuncId → Option SumK) (z : Md) (n : Nat) (f : FuncId) (dec : List (Option Bool)) : List LV → List Nat → List Blk → Nat → Option Dl := fun args seen ks nb =>
  match nodupB seen, allLt nb seen, okArgs (memB seen) args, okBs (memB seen) ks with
  | true, true, true, true => match runF P S z n f args (zipM seen ks) nb dec with
    | some (v, m', _, cs) => outG seen nb v m' cs (keysGe nb m')
    | none => none
  | _, _, _, _ => none

section
variable {P : Program} {S : FuncId → Option SumK} {z : Md}
theorem autoAD_ok (hs : Sound P S) {n : Nat} {f : FuncId} {dec : List (Option Bool)} (ho : Own P f) : GenOK P f (autoAD P S z n f dec) := by
  intro args seen ks g nb p d E w hl hd hnd hc hrel hg hargs hn
  unfold autoAD at hd
  split at hd
  · rename_i c1 c2 c3 c4
    have k1 := nodupB_iff.1 c1
    have k2 := allLt_iff c2
    have k3 := okArgs_iff c3
    have k4 := okBs_iff.1 c4
    split at hd
    · rename_i v m' nb' cs hrun
      unfold outG at hd
      split at hd
      · rename_i bs hkd hbs
        split at hd
        · rename_i v' ws bs' hv' hws hbs'
          cases hd
          have kn := nodupB_iff.1 hkd
          obtain ⟨s', h1, h2, h3, h4⟩ := runF_body hrun
          have hsub : ∀ i c, getM (zipM seen ks) i = some c → i ∈ seen ∧ g i = some c := by
            intro i c hc
            rw [getM_zipM hl] at hc
            split at hc
            · rename_i hi; exact ⟨hi, hc⟩
            · cases hc
          have hbel : ∀ i, memB seen i = true → below nb i = true := fun i hi => by
            simp only [below, decide_eq_true_eq]; exact k2 i (memB_iff.1 hi)
          have hcell : ∀ i c, getM (zipM seen ks) i = some c → i < nb ∧ okL (below nb) c.cells = true := by
            intro i c hc
            obtain ⟨hi, hgi⟩ := hsub i c hc
            refine ⟨k2 i hi, okL_mono hbel ?_⟩
            obtain ⟨_, h6⟩ := liveAll_get hl
            obtain ⟨t, ht, hti⟩ := List.getElem_of_mem hi
            obtain ⟨b, hb, hgb⟩ := h6 t i (by rw [List.getElem?_eq_getElem ht, hti])
            rw [hgi] at hgb
            cases hgb
            exact k4 c (List.mem_of_getElem? hb)
          obtain ⟨v0, b1, b2, b3, b4, b5, b6, b7, b8⟩ := (exec_sound (binOK P) hs.sums hs.mix hs.ng n).2.2.2 f args _ _ s' h1 hcell (uniq_zipM hl k1) (fun u hu => LV.ok_mono hbel (k3 u hu))
          cases b1
          have hmr : MRel E ⟨.nil, 0, zipM seen ks, nb, dec, []⟩ w := ⟨hrel.sub fun i b hb => (hsub i b hb).2, hcell, uniq_zipM hl k1⟩
          have hcall := b8 (by rw [Good, h4]; exact hc) E w hmr
          obtain ⟨fn, f1, f2, f3⟩ := ho
          refine .inl ⟨fn, f1, f2, f3, hcall.mono ?_⟩
          rintro e w' ⟨Eo, rfl, hmr', hx⟩
          have hrel' := hmr'.rel
          rw [h2] at hrel'
          have hsrc := hx.src
          rw [h2] at hsrc
          have hagr : ∀ i, i < nb → Eo i = E i := hx.agree
          have hge := keysGe_ge nb m'
          obtain ⟨l1, l2⟩ := liveAll_get hbs
          obtain ⟨q1, q2⟩ := rnBs_get hbs'
          obtain ⟨y1, y2⟩ := wrsG_spec hws
          generalize hK : keysGe nb m' = keys at *
          have hlen : bs'.length = keys.length := by rw [q1, l1]
          generalize hE' : (fun i => if i < nb then E i else match keys[i - nb]? with
            | some j => Eo j
            | none => E i) = E'
          have Elt : ∀ i, i < nb → E' i = E i := fun i hi => by rw [← hE']; simp [hi]
          have Ege : ∀ i j, nb ≤ i → keys[i - nb]? = some j → E' i = Eo j := fun i j hi hj => by
            rw [← hE']; simp only [show ¬ i < nb by omega, if_false, hj]
          have Eout : ∀ i, nb + bs'.length ≤ i → E' i = E i := fun i hi => by
            rw [← hE']
            simp only [show ¬ i < nb by omega, if_false]
            rw [List.getElem?_eq_none (by omega)]
          have hφ : ∀ i c, nmG seen keys nb i = some c → E' c = Eo i := by
            intro i c hic
            unfold nmG at hic
            split at hic
            · rename_i hi
              cases hic
              have hlt := k2 _ (memB_iff.1 hi)
              rw [Elt _ hlt, hagr _ hlt]
            · obtain ⟨p1, p2, p3⟩ := posN_spec hic
              exact Ege c i p1 p3
          have hsome : ∀ i ∈ seen, ∃ c, g i = some c := fun i hi => Option.isSome_iff_exists.1 (liveAll_some hl i hi)
          have hgnew : ∀ i c, g i = some c → i < nb ∨ nb + bs'.length ≤ i := by
            intro i c hi
            by_cases h5 : i < nb
            · exact .inl h5
            · by_cases h6 : nb + bs'.length ≤ i
              · exact .inr h6
              · exfalso
                have := (hg i c hi).1
                rw [hn i (by omega) (by show i < nb + bs'.length; omega)] at this
                cases this
          have Eold : ∀ i c, g i = some c → E' i = E i := fun i c hi => (hgnew i c hi).elim (Elt i) (Eout i)
          have hlt : ∀ i c, g i = some c → (E i).1 < w.heap.size := fun i c hi => by
            obtain ⟨r, u1, -⟩ := hrel.blk i c hi
            exact (Array.getElem?_eq_some_iff.1 u1).1
          have hpE : ∀ i, p i = true → E' i = E i := by
            intro i hi
            by_cases h5 : i < nb
            · exact Elt i h5
            · refine Eout i ?_
              by_cases h6 : nb + bs'.length ≤ i
              · exact h6
              · exfalso
                rw [hn i (by omega) (by show i < nb + bs'.length; omega)] at hi
                cases hi
          have hwk : (ws.map (·.1)).Nodup := by rw [y1]; exact k1
          -- what lies at a number behind the call
          have hat : ∀ i b, nwG (wrG g ws) nb bs' i = some b →
              (∃ j b0, nb ≤ i ∧ i < nb + bs'.length ∧ keys[i - nb]? = some j ∧ getM m' j = some b0 ∧ rnB (nmG seen keys nb) b0 = some b) ∨
              (i ∈ seen ∧ ∃ b0, getM m' i = some b0 ∧ rnB (nmG seen keys nb) b0 = some b) ∨ (i ∉ seen ∧ g i = some b) := by
            intro i b hb
            by_cases hi : nb ≤ i ∧ i < nb + bs'.length
            · left
              rw [nwG_at _ _ _ hi.1 hi.2] at hb
              obtain ⟨b0, hb0, hr0⟩ := q2 _ _ hb
              have hkl : i - nb < keys.length := by omega
              obtain ⟨b1, hb1, hg1⟩ := l2 (i - nb) keys[i - nb] (List.getElem?_eq_getElem hkl)
              rw [hb0] at hb1
              cases hb1
              exact ⟨keys[i - nb], b0, hi.1, hi.2, List.getElem?_eq_getElem hkl, hg1, hr0⟩
            · right
              rw [nwG_none _ _ _ (by omega)] at hb
              by_cases hs2 : i ∈ seen
              · left
                refine ⟨hs2, ?_⟩
                rw [← y1] at hs2
                obtain ⟨x, hx1, hx2⟩ := List.mem_map.1 hs2
                rw [← hx2, wrG_in ws hwk x hx1] at hb
                rcases y2 x hx1 with hz | ⟨b0, c, z1, z2, z3⟩
                · rw [hz] at hb; cases hb
                · rw [z3] at hb
                  cases hb
                  exact ⟨b0, by rw [← hx2]; exact z1, z2⟩
              · right
                refine ⟨hs2, ?_⟩
                rw [wrG_none] at hb
                · exact hb
                · intro x hx1 e
                  exact hs2 (by rw [← y1, ← e]; exact List.mem_map_of_mem hx1)
          have hframe : ∀ b, b < w.heap.size → (∀ i ∈ seen, (E i).1 ≠ b) → w'.heap[b]? = w.heap[b]? := fun b hb hne => hx.frame b hb fun i hi he => by
            obtain ⟨c, hc⟩ := Option.isSome_iff_exists.1 hi
            exact hne i (hsub i c hc).1 he
          have hnew : ∀ j b0, getM m' j = some b0 → w.heap.size ≤ (Eo j).1 ∨ ∃ i ∈ seen, (Eo j).1 = (E i).1 := by
            intro j b0 hj
            rcases hsrc j (by rw [hj]; rfl) with h | ⟨i, hi, he⟩
            · exact .inl h
            · obtain ⟨c, hc⟩ := Option.isSome_iff_exists.1 hi
              exact .inr ⟨i, (hsub i c hc).1, he⟩
          -- the number in the callee's memory
          have hcal : ∀ i b, nwG (wrG g ws) nb bs' i = some b → (∃ j b0, getM m' j = some b0 ∧ E' i = Eo j ∧ (nb ≤ i ∧ i < nb + bs'.length ∧ keys[i - nb]? = some j ∨ i ∈ seen ∧ j = i)) ∨ (i ∉ seen ∧ g i = some b) := by
            intro i b hb
            rcases hat i b hb with ⟨j, b0, a1, a2, a3, a4, a5⟩ | ⟨a1, b0, a2, a3⟩ | ⟨a1, a2⟩
            · exact .inl ⟨j, b0, a4, Ege i j a1 a3, .inl ⟨a1, a2, a3⟩⟩
            · exact .inl ⟨i, b0, a2, by rw [Elt i (k2 i a1), hagr i (k2 i a1)], .inr ⟨a1, rfl⟩⟩
            · exact .inr ⟨a1, a2⟩
          refine ⟨_, rfl, E', rnLV_den hφ hv', ?_⟩
          refine ⟨fun i hi => ?_, ⟨fun i b hb => ?_, fun i i2 hi hi2 he => ?_⟩, hx.os, hx.tape, hx.output, hx.size, fun b hb hne => hframe b hb fun i hi he => ?_, fun i h5 h6 => ?_⟩
          · rcases hi with hi | hi
            · exact Elt i hi
            · exact Eout i hi
          · rcases hat i b hb with ⟨j, b0, a1, a2, a3, a4, a5⟩ | ⟨a1, b0, a2, a3⟩ | ⟨a1, a2⟩
            · exact rnB_at hφ a5 (Ege i j a1 a3) (hrel'.blk j b0 a4)
            · exact rnB_at hφ a3 (by rw [Elt i (k2 i a1), hagr i (k2 i a1)]) (hrel'.blk i b0 a2)
            · obtain ⟨r, u1, u2, u3⟩ := hrel.blk i b a2
              refine ⟨r, ?_, u2, fun hz => by rw [Eold i b a2]; exact u3 hz⟩
              rw [Eold i b a2, hframe _ (hlt i b a2) (fun j hj e => ?_), u1, denL_congr (p := p) hpE (hg i b a2).2]
              obtain ⟨c, hc2⟩ := hsome j hj
              have := hrel.inj j i (by rw [hc2]; rfl) (by rw [a2]; rfl) e
              exact a1 (this ▸ hj)
          · obtain ⟨b, hb⟩ := Option.isSome_iff_exists.1 hi
            obtain ⟨b2', hb2⟩ := Option.isSome_iff_exists.1 hi2
            -- a callee's number and an old one apart
            have apart : ∀ (j : Nat) (b0 : Blk) (t : Nat) (c : Blk), getM m' j = some b0 → t ∉ seen → g t = some c → (Eo j).1 ≠ (E t).1 := by
              intro j b0 t c hj ht hgt e
              rcases hnew j b0 hj with h | ⟨i0, hi0, e0⟩
              · have := hlt t c hgt; omega
              · obtain ⟨c0, hc0⟩ := hsome i0 hi0
                have := hrel.inj i0 t (by rw [hc0]; rfl) (by rw [hgt]; rfl) (by rw [← e0, e])
                exact ht (this ▸ hi0)
            rcases hcal i b hb with ⟨j, b0, a1, a2, a3⟩ | ⟨a1, a2⟩
            · rcases hcal i2 b2' hb2 with ⟨j2, b3, d1, d2, d3⟩ | ⟨d1, d2⟩
              · rw [a2, d2] at he
                have hjj := hrel'.inj j j2 (by rw [a1]; rfl) (by rw [d1]; rfl) he
                subst hjj
                rcases a3 with ⟨e1, e2, e3⟩ | ⟨e1, e2⟩
                · rcases d3 with ⟨g1, g2, g3⟩ | ⟨g1, g2⟩
                  · have h7 : i - nb < keys.length := by omega
                    have h8 : i2 - nb < keys.length := by omega
                    have e4 : keys[i - nb] = j := by rw [List.getElem?_eq_getElem h7] at e3; exact Option.some.inj e3
                    have g4 : keys[i2 - nb] = j := by rw [List.getElem?_eq_getElem h8] at g3; exact Option.some.inj g3
                    have := (List.getElem_inj (h₀ := h7) (h₁ := h8) kn).1 (by rw [e4, g4])
                    omega
                  · exfalso
                    have h7 := hge j (List.mem_of_getElem? e3)
                    have h8 := k2 i2 g1
                    omega
                · rcases d3 with ⟨g1, g2, g3⟩ | ⟨g1, g2⟩
                  · exfalso
                    have h7 := hge j (List.mem_of_getElem? g3)
                    have h8 := k2 i e1
                    omega
                  · omega
              · exfalso
                rw [a2, Eold i2 b2' d2] at he
                exact apart j b0 i2 b2' a1 d1 d2 he
            · rcases hcal i2 b2' hb2 with ⟨j2, b3, d1, d2, d3⟩ | ⟨d1, d2⟩
              · exfalso
                rw [d2, Eold i b a2] at he
                exact apart j2 b3 i b d1 a1 a2 he.symm
              · rw [Eold i b a2, Eold i2 b2' d2] at he
                exact hrel.inj i i2 (by rw [a2]; rfl) (by rw [d2]; rfl) he
          · obtain ⟨c, hc2⟩ := hsome i hi
            exact hne i (by rw [hc2]; rfl) he
          · have h6' : i < nb + bs'.length := h6
            have hkl : i - nb < keys.length := by omega
            have hk := List.getElem?_eq_getElem hkl
            obtain ⟨b1, hb1, hg1⟩ := l2 (i - nb) _ hk
            rw [Ege i _ h5 hk]
            rcases hnew _ b1 hg1 with h | ⟨i0, hi0, e0⟩
            · exact .inl h
            · obtain ⟨c, hc2⟩ := hsome i0 hi0
              exact .inr ⟨i0, by rw [hc2]; rfl, e0⟩
        · cases hd
      · cases hd
    · cases hd
  · cases hd

end
end Go.Lr

/- What FlowRates runs on. -/
namespace Go.Proofs.Ytdkmiliehlhmbaa
open Go.Lr
noncomputable def S60 : FuncId → Option SumK := more S47 5 (pureSum trueF)
theorem sound60 : Sound Try.prog S60 := sound47.more sumAwakeL
noncomputable def S61 : FuncId → Option SumK := moreG S60 10 (autoAD Try.prog S60 Zl 4000 10 [none, some false, some false])
theorem sound61 : Sound Try.prog S61 := sound60.moreG (autoAD_ok sound60 (own_of sound60 Try.func10 (by kernel_rfl)))
end Go.Proofs.Ytdkmiliehlhmbaa

/- Levels: a heading's Unit has no second and third number; divisions by what is about One. -/
namespace Go.Proofs.Ytdkmiliehlhmbaa
open Go.Lr
set_option linter.unusedVariables false
set_option linter.unusedSimpArgs false

theorem div_z (d : Int) : divPV 0 d 30 = 0 := by
  have e : pow2 (Int.toNat 30) = 1073741824 := rfl
  have s0 : satV 0 = 0 := by rw [sat_in (by omega) (by omega)]
  unfold divPV byV
  rw [if_neg (by decide), if_neg (by decide), e, s0, Int.zero_mul]
  by_cases h : satV d = 0
  · rw [if_pos h, if_pos rfl]
  · rw [if_neg h]
    unfold divV
    have : quoR (absV 0) (absV (satV d)) = 0 := by
      rw [show absV 0 = 0 from rfl]
      exact quoR_zero (by unfold absV; split <;> omega)
    rw [this]
    have g : ∀ b : Bool, sgn b 0 = 0 := by intro b; cases b <;> rfl
    rw [g, s0]
theorem unit_z (a d : Int) : uV1 a 0 0 d = 0 ∧ uV2 a 0 0 d = 0 := by
  have s0 : satV 0 = 0 := by rw [sat_in (by omega) (by omega)]
  unfold uV1 uV2 uE
  rw [s0, div_z, div_z]
  cases uZ a 0 0 d <;> exact ⟨rfl, rfl⟩
theorem fy_ok (a : Int) : UnitQ (fy0 a) 0 0 (fy3 a) ∧ fy1 a = 0 ∧ fy2 a = 0 := by
  have h := unit_ok (cosV (fyA a)) 0 0 (sinV (fyA a))
  have z := unit_z (cosV (fyA a)) (sinV (fyA a))
  rw [z.1, z.2] at h
  exact ⟨h, z.1, z.2⟩
/-- A level's matrix: its last entry is about One. -/
theorem lev8 {a d : Int} (h : UnitQ a 0 0 d) : 1073741820 ≤ rm8 a 0 0 d ∧ rm8 a 0 0 d ≤ 1073741828 := by
  obtain ⟨-, -, -, -, -, -, -, -, e8, -⟩ := rm_eq h.ha h.hb h.hc h.hd
  rw [e8]
  have r := rn_rnd (mx8 a 0 0 d)
  have hn := h.hn
  unfold nearU n4 at hn
  unfold RN at r
  generalize rndV (mx8 a 0 0 d) 30 = k at *
  unfold mx8 at r
  omega
theorem sub_mid {a b : Int} (a0 : -18014398509481984 ≤ a ∧ a ≤ 18014398509481984) (b0 : -18014398509481984 ≤ b ∧ b ≤ 18014398509481984) : subV a b = a - b ∧ subH a b = false := by
  unfold subV subH
  rw [sat_in (a := a) (by omega) (by omega), sat_in (a := b) (by omega) (by omega), satH_in (a := a) (by omega) (by omega), satH_in (a := b) (by omega) (by omega), sat_in (by omega) (by omega), satH_in (by omega) (by omega)]
  exact ⟨rfl, rfl⟩
theorem wneg_mid {a : Int} (a0 : -18014398509481984 ≤ a ∧ a ≤ 18014398509481984) : wr IntKind.i64 (0 - a) = -a := wneg ⟨by omega, by omega⟩
-- @@end
end Go.Proofs.Ytdkmiliehlhmbaa

/- Polynomials with whole coefficients, in one and in two numbers: their values, sums, products; bounds by the coefficients' sizes. Plain. -/
namespace Go.Tg
set_option linter.unusedVariables false

/-- The value: the lowest coefficient first. -/
def pv : List Int → Int → Int
  | [], _ => 0
  | a :: l, x => a + x * pv l x
def padd : List Int → List Int → List Int
  | [], m => m
  | a :: l, [] => a :: l
  | a :: l, b :: m => (a + b) :: padd l m
def psm (k : Int) : List Int → List Int
  | [] => []
  | a :: l => (k * a) :: psm k l
def pabs : List Int → List Int
  | [] => []
  | a :: l => (a.natAbs : Int) :: pabs l
theorem pv_add : ∀ (l m : List Int) (x : Int), pv (padd l m) x = pv l x + pv m x
  | [], m, x => by simp [padd, pv]
  | a :: l, [], x => by simp [padd, pv]
  | a :: l, b :: m, x => by
    simp only [padd, pv, pv_add l m x]; grind
theorem pv_sm (k : Int) : ∀ (l : List Int) (x : Int), pv (psm k l) x = k * pv l x
  | [], x => by simp [psm, pv]
  | a :: l, x => by simp only [psm, pv, pv_sm k l x]; grind
theorem abs_mul_le {a b k l : Int} (ha : (a.natAbs : Int) ≤ k) (hb : (b.natAbs : Int) ≤ l) : ((a * b).natAbs : Int) ≤ k * l := by
  rw [Int.natAbs_mul, Int.natCast_mul]
  exact Int.mul_le_mul ha hb (by omega) (by omega)
theorem pv_abs {x R : Int} (hx : (x.natAbs : Int) ≤ R) : ∀ l : List Int, ((pv l x).natAbs : Int) ≤ pv (pabs l) R
  | [] => by simp [pv, pabs]
  | a :: l => by
    have h := abs_mul_le hx (pv_abs hx l)
    simp only [pv, pabs]
    have h2 := Int.natAbs_add_le a (x * pv l x)
    omega
/-- Its signs turned; turned at the odd places. -/
def pneg : List Int → List Int
  | [] => []
  | a :: l => (-a) :: pneg l
def alt : List Int → List Int
  | [] => []
  | a :: l => a :: pneg (alt l)
theorem pv_pneg : ∀ (l : List Int) (x : Int), pv (pneg l) x = -pv l x
  | [], x => rfl
  | a :: l, x => by simp only [pneg, pv, pv_pneg l x]; grind

/-- Two numbers. -/
def ev2 : List (List Int) → Int → Int → Int
  | [], _, _ => 0
  | p :: l, x, y => pv p x + y * ev2 l x y
def add2 : List (List Int) → List (List Int) → List (List Int)
  | [], m => m
  | a :: l, [] => a :: l
  | a :: l, b :: m => padd a b :: add2 l m
def sm2 (k : Int) : List (List Int) → List (List Int)
  | [] => []
  | a :: l => psm k a :: sm2 k l
def out2 (p : List Int) : List Int → List (List Int)
  | [] => []
  | b :: l => psm b p :: out2 p l
def shx : List (List Int) → List (List Int)
  | [] => []
  | a :: l => (0 :: a) :: shx l
def sumP : List Int → List (List Int)
  | [] => []
  | a :: l => add2 [[a]] (add2 (shx (sumP l)) ([] :: sumP l))
def abs2 : List (List Int) → List (List Int)
  | [] => []
  | a :: l => pabs a :: abs2 l
theorem ev2_add : ∀ (l m : List (List Int)) (x y : Int), ev2 (add2 l m) x y = ev2 l x y + ev2 m x y
  | [], m, x, y => by simp [add2, ev2]
  | a :: l, [], x, y => by simp [add2, ev2]
  | a :: l, b :: m, x, y => by simp only [add2, ev2, pv_add, ev2_add l m x y]; grind
theorem ev2_sm (k : Int) : ∀ (l : List (List Int)) (x y : Int), ev2 (sm2 k l) x y = k * ev2 l x y
  | [], x, y => by simp [sm2, ev2]
  | a :: l, x, y => by simp only [sm2, ev2, pv_sm, ev2_sm k l x y]; grind
theorem ev2_out (p : List Int) : ∀ (q : List Int) (x y : Int), ev2 (out2 p q) x y = pv p x * pv q y
  | [], x, y => by simp [out2, ev2, pv]
  | b :: l, x, y => by simp only [out2, ev2, pv, pv_sm, ev2_out p l x y]; grind
theorem ev2_shx : ∀ (l : List (List Int)) (x y : Int), ev2 (shx l) x y = x * ev2 l x y
  | [], x, y => by simp [shx, ev2]
  | a :: l, x, y => by simp only [shx, ev2, pv, ev2_shx l x y]; grind
theorem ev2_sumP : ∀ (l : List Int) (x y : Int), ev2 (sumP l) x y = pv l (x + y)
  | [], x, y => by simp [sumP, ev2, pv]
  | a :: l, x, y => by simp only [sumP, ev2_add, ev2_shx, ev2, pv, ev2_sumP l x y]; grind
theorem ev2_abs {x y R S : Int} (hx : (x.natAbs : Int) ≤ R) (hy : (y.natAbs : Int) ≤ S) : ∀ l : List (List Int), ((ev2 l x y).natAbs : Int) ≤ ev2 (abs2 l) R S
  | [] => by simp [ev2, abs2]
  | a :: l => by
    have h := abs_mul_le hy (ev2_abs hx hy l)
    have h1 := pv_abs hx a
    simp only [ev2, abs2]
    have h2 := Int.natAbs_add_le (pv a x) (y * ev2 l x y)
    omega
/-- Less or equal, for the kernel. -/
def leB (a b : Int) : Bool := decide (a ≤ b)
theorem leB_le {a b : Int} (h : leB a b = true) : a ≤ b := of_decide_eq_true h
end Go.Tg

/- The reference's cosine and sine: partial sums of their series, as polynomials with whole coefficients; the sums of angles. Plain. -/
namespace Go.Tg
set_option linter.unusedVariables false

/-- One, and the quarter turn. -/
abbrev U : Int := 1073741824
abbrev Qt : Int := 1686629713
/-- The scale: 25! * 2^750. -/
def MN : Int := 15511210043330985984000000 * 1073741824 ^ 25
/-- The n-th coefficients, from n on, k of them: d the coefficient's size (25!/n! * 2^(30 (25-n))). -/
def tayF : Nat → Int → Int → Bool → Bool → List Int
  | 0, _, _, _, _ => []
  | k + 1, n, d, odd, neg =>
    (match odd with
    | true => 0
    | false => match neg with
      | true => -d
      | false => d) :: tayF k (n + 1) (d / ((n + 1) * 1073741824)) (!odd) (match odd with
        | true => neg
        | false => !neg)
def cosL : List Int := tayF 26 0 MN false false
/-- The sine's: as the cosine's, at the odd places. -/
def sinL : List Int := 0 :: tayF 25 1 (MN / 1073741824) false false
def eL (R : Int) (l : List (List Int)) : Bool := leB (1099511627776 * ev2 (abs2 l) R R) (MN * MN)
theorem chk1 : eL 1700000000 (add2 (add2 (out2 cosL cosL) (sm2 (-1) (out2 sinL sinL))) (sm2 (-MN) (sumP cosL))) = true := by kernel_rfl
theorem chk2 : eL 1700000000 (add2 (add2 (out2 sinL cosL) (out2 cosL sinL)) (sm2 (-MN) (sumP sinL))) = true := by kernel_rfl
/-- Within a bound. -/
def nb (a k : Int) : Prop := -k ≤ a ∧ a ≤ k
theorem nb.abs {a k : Int} (h : nb a k) : (a.natAbs : Int) ≤ k := by unfold nb at h; omega
theorem nb.of {a k : Int} (h : (a.natAbs : Int) ≤ k) : nb a k := by unfold nb; omega
theorem nb.mul {a b k l : Int} (h : nb a k) (g : nb b l) : nb (a * b) (k * l) := nb.of (abs_mul_le h.abs g.abs)
theorem nb.add {a b k l : Int} (h : nb a k) (g : nb b l) : nb (a + b) (k + l) := by unfold nb at *; omega
theorem nb.sub {a b k l : Int} (h : nb a k) (g : nb b l) : nb (a - b) (k + l) := by unfold nb at *; omega
theorem nb.neg {a k : Int} (h : nb a k) : nb (-a) k := by unfold nb at *; omega
theorem nb.le {a k l : Int} (h : nb a k) (g : k ≤ l) : nb a l := by unfold nb at *; omega
theorem nb.lmul {a k m : Int} (h : nb a k) (hm : 0 ≤ m) : nb (m * a) (m * k) := by
  have h1 := Int.mul_le_mul_of_nonneg_left h.2 hm
  have h2 := Int.mul_le_mul_of_nonneg_left h.1 hm
  rw [Int.mul_neg] at h2
  exact ⟨h2, h1⟩
theorem nb.cancel {a k m : Int} (hm : 0 < m) (h : nb (m * a) (m * k)) : nb a k := by
  refine ⟨?_, Int.le_of_mul_le_mul_left h.2 hm⟩
  have h1 := h.1
  rw [← Int.mul_neg] at h1
  exact Int.le_of_mul_le_mul_left h1 hm

def Cp (x : Int) : Int := pv cosL x
def Sp (x : Int) : Int := pv sinL x
theorem MN_pos : 0 < MN := by decide +kernel
theorem pv_neg : ∀ (l : List Int) (x : Int), pv l (-x) = pv (alt l) x
  | [], x => rfl
  | a :: l, x => by
    have h := pv_neg l x
    have h2 : pv (pneg (alt l)) x = -pv (alt l) x := pv_pneg _ _
    simp only [pv, alt, h, h2]; grind
theorem Cp_neg (x : Int) : Cp (-x) = Cp x := by
  unfold Cp; rw [pv_neg, show alt cosL = cosL by kernel_rfl]
theorem Sp_neg (x : Int) : Sp (-x) = -Sp x := by
  unfold Sp; rw [pv_neg, show alt sinL = pneg sinL by kernel_rfl, pv_pneg]
theorem eL_nb {R x y : Int} {l : List (List Int)} (h : eL R l = true) (hx : nb x R) (hy : nb y R) : nb (1099511627776 * ev2 l x y) (MN * MN) := by
  have h1 := leB_le h
  have h2 := ev2_abs hx.abs hy.abs l
  unfold nb
  omega
theorem add_c {x y : Int} (hx : nb x 1700000000) (hy : nb y 1700000000) : nb (1099511627776 * (Cp x * Cp y - Sp x * Sp y - MN * Cp (x + y))) (MN * MN) := by
  have h := eL_nb chk1 hx hy
  rw [ev2_add, ev2_add, ev2_sm, ev2_sm, ev2_out, ev2_out, ev2_sumP] at h
  have e : Cp x * Cp y - Sp x * Sp y - MN * Cp (x + y) = pv cosL x * pv cosL y + -1 * (pv sinL x * pv sinL y) + -MN * pv cosL (x + y) := by unfold Cp Sp; grind
  rw [e]; exact h
theorem add_s {x y : Int} (hx : nb x 1700000000) (hy : nb y 1700000000) : nb (1099511627776 * (Sp x * Cp y + Cp x * Sp y - MN * Sp (x + y))) (MN * MN) := by
  have h := eL_nb chk2 hx hy
  rw [ev2_add, ev2_add, ev2_sm, ev2_out, ev2_out, ev2_sumP] at h
  have e : Sp x * Cp y + Cp x * Sp y - MN * Sp (x + y) = pv sinL x * pv cosL y + pv cosL x * pv sinL y + -MN * pv sinL (x + y) := by unfold Cp Sp; grind
  rw [e]; exact h
theorem Cp_0 : Cp 0 = MN := by unfold Cp; kernel_rfl
/-- At the quarter turn. -/
theorem Cp_Q : nb (8589934592 * Cp 1686629713) MN := ⟨leB_le (by kernel_rfl), leB_le (by kernel_rfl)⟩
theorem Sp_Q : nb (1099511627776 * (Sp 1686629713 - MN)) MN := ⟨leB_le (by kernel_rfl), leB_le (by kernel_rfl)⟩
/-- Neither is much over one. -/
theorem one_of {M T c s : Int} (hM : 0 < M) (h : 1099511627776 * (c * c + s * s - M * M) ≤ M * M) (hT : s = M + T) : 2199023255552 * T ≤ M := by
  rcases Int.lt_or_le M (2199023255552 * T) with g | g
  · exfalso
    have hc : 0 ≤ c * c := by
      rcases Int.le_total 0 c with k | k
      · exact Int.mul_nonneg k k
      · exact Int.mul_nonneg_of_nonpos_of_nonpos k k
    have hT2 : 0 < T := by omega
    have hTT : 0 ≤ T * T := Int.mul_nonneg (by omega) (by omega)
    have e : s * s = M * M + 2 * (M * T) + T * T := by rw [hT]; grind
    have k : M * M < M * (2199023255552 * T) := Int.mul_lt_mul_of_pos_left g hM
    have e2 : M * (2199023255552 * T) = 2199023255552 * (M * T) := by grind
    omega
  · exact g
theorem sq_1 {x : Int} (hx : nb x 1700000000) : 1099511627776 * (Cp x * Cp x + Sp x * Sp x - MN * MN) ≤ MN * MN ∧ -(MN * MN) ≤ 1099511627776 * (Cp x * Cp x + Sp x * Sp x - MN * MN) := by
  have h := add_c hx hx.neg
  rw [show x + -x = 0 by omega, Cp_0, Cp_neg, Sp_neg] at h
  have e : Cp x * Cp x - Sp x * -Sp x - MN * MN = Cp x * Cp x + Sp x * Sp x - MN * MN := by grind
  rw [e] at h
  exact ⟨h.2, h.1⟩
theorem Sp_one {x : Int} (hx : nb x 1700000000) : nb (2199023255552 * Sp x) (2199023255553 * MN) := by
  obtain ⟨h, -⟩ := sq_1 hx
  have h1 := one_of (c := Cp x) MN_pos h (show Sp x = MN + (Sp x - MN) by omega)
  have h2 := one_of (c := Cp x) (s := -Sp x) MN_pos (by rw [Int.neg_mul_neg]; exact h) (show -Sp x = MN + (-Sp x - MN) by omega)
  unfold nb
  generalize Sp x = s at *
  generalize MN = m at *
  omega
theorem Cp_one {x : Int} (hx : nb x 1700000000) : nb (2199023255552 * Cp x) (2199023255553 * MN) := by
  obtain ⟨h, -⟩ := sq_1 hx
  rw [Int.add_comm (Cp x * Cp x)] at h
  have h1 := one_of (c := Sp x) MN_pos h (show Cp x = MN + (Cp x - MN) by omega)
  have h2 := one_of (c := Sp x) (s := -Cp x) MN_pos (by rw [Int.neg_mul_neg]; exact h) (show -Cp x = MN + (-Cp x - MN) by omega)
  unfold nb
  generalize Cp x = s at *
  generalize MN = m at *
  omega
/-- The cosine is the sine of what lacks to a quarter. -/
theorem co_eq {w : Int} (hw : nb w 1700000000) : nb (4294967296 * (Cp (1686629713 - w) - Sp w)) MN ∧ nb (4294967296 * (Sp (1686629713 - w) - Cp w)) MN := by
  have hQ : nb 1686629713 1700000000 := by unfold nb; omega
  have c := add_c hQ hw.neg
  have s := add_s hQ hw.neg
  rw [Cp_neg, Sp_neg, show (1686629713 : Int) + -w = 1686629713 - w by omega] at c s
  have q1 := Cp_Q
  have q2 := Sp_Q
  have o1 := Sp_one hw
  have o2 := Cp_one hw
  have hM := MN_pos
  generalize Cp 1686629713 = cq at *
  generalize Sp 1686629713 = sq at *
  generalize Cp (1686629713 - w) = a at *
  generalize Sp (1686629713 - w) = b at *
  generalize Cp w = cw at *
  generalize Sp w = sw at *
  generalize MN = M at *
  have p1 := q1.mul o2
  have p2 := q2.mul o1
  have p3 := q1.mul o1
  have p4 := q2.mul o2
  constructor
  · refine nb.cancel hM ?_
    have e1 : cq * cw - sq * -sw - M * a = cq * cw + (sq - M) * sw - M * (a - sw) := by grind
    rw [e1] at c
    have e2 : 8589934592 * cq * (2199023255552 * cw) = 18889465931478580854784 * (cq * cw) := by grind
    have e3 : 1099511627776 * (sq - M) * (2199023255552 * sw) = 2417851639229258349412352 * ((sq - M) * sw) := by grind
    have e4 : M * (4294967296 * (a - sw)) = 4294967296 * (M * (a - sw)) := by grind
    have e5 : M * (2199023255553 * M) = 2199023255553 * (M * M) := by grind
    rw [e2, e5] at p1
    rw [e3, e5] at p2
    rw [e4]
    unfold nb at *
    generalize M * (a - sw) = A at *
    generalize cq * cw = B at *
    generalize (sq - M) * sw = D at *
    generalize M * M = MM at *
    omega
  · refine nb.cancel hM ?_
    have e1 : sq * cw + cq * -sw - M * b = (sq - M) * cw - cq * sw - M * (b - cw) := by grind
    rw [e1] at s
    have e2 : 8589934592 * cq * (2199023255552 * sw) = 18889465931478580854784 * (cq * sw) := by grind
    have e3 : 1099511627776 * (sq - M) * (2199023255552 * cw) = 2417851639229258349412352 * ((sq - M) * cw) := by grind
    have e4 : M * (4294967296 * (b - cw)) = 4294967296 * (M * (b - cw)) := by grind
    have e5 : M * (2199023255553 * M) = 2199023255553 * (M * M) := by grind
    rw [e2, e5] at p3
    rw [e3, e5] at p4
    rw [e4]
    unfold nb at *
    generalize M * (b - cw) = A at *
    generalize cq * sw = B at *
    generalize (sq - M) * cw = D at *
    generalize M * M = MM at *
    omega
end Go.Tg

/- The program's sine and cosine against the reference's: how far off they are; the ways they turn. Plain. -/
namespace Go.Proofs.Ytdkmiliehlhmbaa
open Go.Lr Go.Tg
set_option linter.unusedVariables false
set_option linter.unusedSimpArgs false

/-- A series' exact value, times W. -/
def hP (x2 : Int) : Int → Int → List Int → Int
  | p, _, [] => p
  | p, w, k :: l => hP x2 (k * (w * 1152921504606846976) + x2 * p) (w * 1152921504606846976) l
def hW : Int → List Int → Int
  | w, [] => w
  | w, _ :: l => hW (w * 1152921504606846976) l
def hL : List Int → Int → List Int → List Int
  | q, _, [] => q
  | q, w, k :: l => hL ((k * (w * 1152921504606846976)) :: q) (w * 1152921504606846976) l
theorem hP_ev (x2 : Int) : ∀ (l q : List Int) (w : Int), hP x2 (pv q x2) w l = pv (hL q w l) x2
  | [], q, w => rfl
  | k :: l, q, w => hP_ev x2 l ((k * (w * 1152921504606846976)) :: q) (w * 1152921504606846976)
/-- In the number itself, where the series is one of its square. -/
def sprd : List Int → List Int
  | [] => []
  | a :: l => a :: 0 :: sprd l
theorem pv_sprd (x : Int) : ∀ l : List Int, pv (sprd l) x = pv l (x * x)
  | [] => rfl
  | a :: l => by simp only [sprd, pv, pv_sprd x l]; grind

theorem mul30 {a b : Int} (ha : nb a 4294967296) (hb : nb b 4294967296) : nb (2 * (mulV a b 30 * 1073741824 - a * b)) 1073741824 := by
  have h := rnd_bd (a * b) 30
  rw [show pow2 30 = 1073741824 from rfl] at h
  have hp := ha.mul hb
  unfold nb at ha hb hp
  have e : mulV a b 30 = rndV (a * b) 30 := by
    unfold mulV rndS
    rw [if_neg (by decide), if_neg (by decide), sat_in (a := a) (by omega) (by omega), sat_in (a := b) (by omega) (by omega), show Int.toNat 30 = 30 from rfl]
    exact sat_in (by omega) (by omega)
  rw [e]; exact h
theorem addnb {a b : Int} (ha : nb a 4294967296) (hb : nb b 4294967296) : faddV [a, b] = a + b := by
  unfold nb at ha hb
  unfold faddV
  simp only [sumS]
  rw [sat_in (a := a) (by omega) (by omega), sat_in (a := b) (by omega) (by omega), sat_in (by omega) (by omega)]; omega

theorem z_bd {z x2 : Int} (hx0 : 0 ≤ x2) (hx1 : x2 ≤ 711180000000000000) (hz : nb (2 * (z * 1073741824 - x2)) 1073741824) : 0 ≤ z ∧ z ≤ 662338200 := by
  unfold nb at hz; omega
theorem step {z x2 s k w p : Int} (hx0 : 0 ≤ x2) (hx1 : x2 ≤ 711180000000000000) (hz : nb (2 * (z * 1073741824 - x2)) 1073741824) (hw : 0 < w) (hk : nb k 1073741824) (hs : nb s 1503238553) (he : nb (s * w - p) (4 * w)) :
    faddV [k, mulV z s 30] = k + mulV z s 30 ∧ nb (mulV z s 30) 927400000 ∧ nb ((k + mulV z s 30) * (w * 1152921504606846976) - (k * (w * 1152921504606846976) + x2 * p)) (4 * (w * 1152921504606846976)) := by
  obtain ⟨z0, z1⟩ := z_bd hx0 hx1 hz
  have zn : nb z 662338200 := ⟨by omega, z1⟩
  have hm := mul30 (zn.le (by omega)) (hs.le (by omega))
  have hzs := zn.mul hs
  generalize mulV z s 30 = m at *
  have mb : nb m 927400000 := by unfold nb at *; omega
  refine ⟨addnb (hk.le (by omega)) (mb.le (by omega)), mb, ?_⟩
  have xn : nb x2 711180000000000000 := ⟨by omega, hx1⟩
  have a1 := xn.mul he
  have a2 := hs.mul hz
  have a3 := (show nb 1073741824 1073741824 by unfold nb; omega).mul hm
  have a4 := (a2.add a3).lmul (show 0 ≤ w by omega)
  have e : 2 * ((k + m) * (w * 1152921504606846976) - (k * (w * 1152921504606846976) + x2 * p)) = 2 * (x2 * (s * w - p)) + w * (s * (2 * (z * 1073741824 - x2)) + 1073741824 * (2 * (m * 1073741824 - z * s))) := by grind
  unfold nb at a1 a4 ⊢
  generalize (k + m) * (w * 1152921504606846976) - (k * (w * 1152921504606846976) + x2 * p) = X at *
  generalize w * (s * (2 * (z * 1073741824 - x2)) + 1073741824 * (2 * (m * 1073741824 - z * s))) = Y at *
  generalize x2 * (s * w - p) = Z at *
  omega
theorem ser_err {z x2 : Int} (hx0 : 0 ≤ x2) (hx1 : x2 ≤ 711180000000000000) (hz : nb (2 * (z * 1073741824 - x2)) 1073741824) : ∀ (l : List Int) (s p w : Int), 0 < w → (∀ k ∈ l, nb k 536870912) → nb s 1503238553 → nb (s * w - p) (4 * w) →
    nb (serV z s l) 1503238553 ∧ nb (serV z s l * hW w l - hP x2 p w l) (4 * hW w l) ∧ 0 < hW w l
  | [], s, p, w, hw, _, hs, he => ⟨hs, he, hw⟩
  | k :: l, s, p, w, hw, hk, hs, he => by
    have hk0 := hk k (List.mem_cons_self ..)
    obtain ⟨e1, e2, e3⟩ := step hx0 hx1 hz hw (hk0.le (by omega)) hs he
    simp only [serV, hW, hP]
    rw [e1]
    refine ser_err hx0 hx1 hz l _ _ _ (by omega) (fun j hj => hk j (List.mem_cons_of_mem _ hj)) ?_ e3
    unfold nb at *; omega
theorem ser_app (z : Int) (k : Int) : ∀ (l : List Int) (s : Int), serV z s (l ++ [k]) = faddV [k, mulV z (serV z s l) 30]
  | [], s => rfl
  | j :: l, s => by simp only [List.cons_append, serV]; exact ser_app z k l _
theorem hP_app (x2 k : Int) : ∀ (l : List Int) (p w : Int), hP x2 p w (l ++ [k]) = k * (hW w l * 1152921504606846976) + x2 * hP x2 p w l
  | [], p, w => rfl
  | j :: l, p, w => by simp only [List.cons_append, hP, hW]; exact hP_app x2 k l _ _
theorem hW_app (k : Int) : ∀ (l : List Int) (w : Int), hW w (l ++ [k]) = hW w l * 1152921504606846976
  | [], w => rfl
  | j :: l, w => by simp only [List.cons_append, hW]; exact hW_app k l _
/-- A whole series: its last coefficient is one. -/
theorem ser_all {z x2 a : Int} {l : List Int} (hx0 : 0 ≤ x2) (hx1 : x2 ≤ 711180000000000000) (hz : nb (2 * (z * 1073741824 - x2)) 1073741824) (ha : nb a 536870912) (hk : ∀ k ∈ l, nb k 536870912) :
    nb (serV z a (l ++ [1073741824])) 2001141824 ∧ nb (serV z a (l ++ [1073741824]) * hW 1 (l ++ [1073741824]) - pv (hL [a] 1 (l ++ [1073741824])) x2) (4 * hW 1 (l ++ [1073741824])) ∧ 0 < hW 1 (l ++ [1073741824]) := by
  obtain ⟨b0, b1, b2⟩ := ser_err hx0 hx1 hz l a a 1 (by omega) hk (ha.le (by omega)) (by unfold nb; omega)
  obtain ⟨e1, e2, e3⟩ := step hx0 hx1 hz b2 (show nb 1073741824 1073741824 by unfold nb; omega) b0 b1
  have e := hP_ev x2 (l ++ [1073741824]) [a] 1
  rw [show pv [a] x2 = a by simp [pv]] at e
  rw [← e, ser_app, hP_app, hW_app, e1]
  exact ⟨by unfold nb at *; omega, e3, by omega⟩

theorem sqx_bd {x : Int} (hx : nb x 843314857) : 0 ≤ x * x ∧ x * x ≤ 711180000000000000 := by
  have h := (hx.mul hx).2
  refine ⟨?_, by omega⟩
  rcases Int.le_total 0 x with k | k
  · exact Int.mul_nonneg k k
  · exact Int.mul_nonneg_of_nonpos_of_nonpos k k
theorem chk3 : leB (2 * pv (pabs (padd (psm MN (0 :: sprd (hL [-27] 1 sL1))) (psm (-(1073741824 ^ 12)) sinL))) 843314857) (MN * 1073741824 ^ 11) = true := by kernel_rfl
theorem chk4 : leB (2 * pv (pabs (padd (psm MN (sprd (hL [2] 1 sL2))) (psm (-(1073741824 ^ 13)) cosL))) 843314857) (MN * 1073741824 ^ 12) = true := by kernel_rfl
theorem s0_err {x : Int} (hx : nb x 843314857) : nb (2 * (MN * sinS0 x - 1073741824 * Sp x)) (9 * MN) := by
  obtain ⟨q0, q1⟩ := sqx_bd hx
  have hz := mul30 (hx.le (by omega)) (hx.le (by omega))
  unfold sinS0
  have hl : sL1 = [2959, -213044, 8947849, -178956971] ++ [1073741824] := rfl
  obtain ⟨a0, a1, -⟩ := ser_all (a := -27) (l := [2959, -213044, 8947849, -178956971]) q0 q1 hz (by unfold nb; omega) (by unfold nb; simp)
  rw [← hl] at a0 a1
  have c := (show nb (2 * pv (padd (psm MN (0 :: sprd (hL [-27] 1 sL1))) (psm (-(1073741824 ^ 12)) sinL)) x) (MN * 1073741824 ^ 11) from by
    have h := leB_le chk3
    have h2 := pv_abs hx.abs (padd (psm MN (0 :: sprd (hL [-27] 1 sL1))) (psm (-(1073741824 ^ 12)) sinL))
    unfold nb; omega)
  rw [pv_add, pv_sm, pv_sm] at c
  rw [show pv (0 :: sprd (hL [-27] 1 sL1)) x = x * pv (hL [-27] 1 sL1) (x * x) by simp only [pv, pv_sprd]; omega] at c
  generalize mulV x x 30 = z at *
  generalize serV z (-27) sL1 = S at *
  have hm := mul30 (hx.le (show (843314857 : Int) ≤ 4294967296 by omega)) (a0.le (show (2001141824 : Int) ≤ 4294967296 by omega))
  generalize mulV x S 30 = m at *
  generalize pv (hL [-27] 1 sL1) (x * x) = p at *
  rw [show hW 1 sL1 = 1073741824 ^ 10 by decide +kernel] at a1
  have hM := MN_pos
  change nb (2 * (MN * (x * p) + -1073741824 ^ 12 * Sp x)) (MN * 1073741824 ^ 11) at c
  generalize Sp x = sp at *
  generalize MN = M at *
  have b1 := (hx.mul a1).lmul (show 0 ≤ M by omega)
  have b2 := hm.lmul (show 0 ≤ M by omega)
  refine nb.cancel (m := 1073741824 ^ 11) (by decide) ?_
  have e : 1073741824 ^ 11 * (2 * (M * m - 1073741824 * sp)) = 2 * (M * (x * (S * 1073741824 ^ 10 - p))) + 1073741824 ^ 10 * (M * (2 * (m * 1073741824 - x * S))) + 2 * (M * (x * p) + -1073741824 ^ 12 * sp) := by grind
  rw [e]
  unfold nb at b1 b2 c ⊢
  generalize M * (x * (S * 1073741824 ^ 10 - p)) = A at *
  generalize M * (2 * (m * 1073741824 - x * S)) = B at *
  generalize 2 * (M * (x * p) + -1073741824 ^ 12 * sp) = D at *
  omega
theorem c0_err {x : Int} (hx : nb x 843314857) : nb (2 * (MN * serV (mulV x x 30) 2 sL2 - 1073741824 * Cp x)) (9 * MN) ∧ nb (serV (mulV x x 30) 2 sL2) 2001141824 := by
  obtain ⟨q0, q1⟩ := sqx_bd hx
  have hz := mul30 (hx.le (by omega)) (hx.le (by omega))
  have hl : sL2 = [-296, 26631, -1491308, 44739243, -536870912] ++ [1073741824] := rfl
  obtain ⟨a0, a1, -⟩ := ser_all (a := 2) (l := [-296, 26631, -1491308, 44739243, -536870912]) q0 q1 hz (by unfold nb; omega) (by unfold nb; simp)
  rw [← hl] at a0 a1
  have c := (show nb (2 * pv (padd (psm MN (sprd (hL [2] 1 sL2))) (psm (-(1073741824 ^ 13)) cosL)) x) (MN * 1073741824 ^ 12) from by
    have h := leB_le chk4
    have h2 := pv_abs hx.abs (padd (psm MN (sprd (hL [2] 1 sL2))) (psm (-(1073741824 ^ 13)) cosL))
    unfold nb; omega)
  rw [pv_add, pv_sm, pv_sm, pv_sprd] at c
  generalize mulV x x 30 = z at *
  refine ⟨?_, a0⟩
  generalize serV z 2 sL2 = S at *
  generalize pv (hL [2] 1 sL2) (x * x) = p at *
  rw [show hW 1 sL2 = 1073741824 ^ 12 by decide +kernel] at a1
  have hM := MN_pos
  change nb (2 * (MN * p + -1073741824 ^ 13 * Cp x)) (MN * 1073741824 ^ 12) at c
  generalize Cp x = cp at *
  generalize MN = M at *
  have b1 := a1.lmul (show 0 ≤ M by omega)
  refine nb.cancel (m := 1073741824 ^ 12) (by decide) ?_
  have e : 1073741824 ^ 12 * (2 * (M * S - 1073741824 * cp)) = 2 * (M * (S * 1073741824 ^ 12 - p)) + 2 * (M * p + -1073741824 ^ 13 * cp) := by grind
  rw [e]
  unfold nb at b1 c ⊢
  generalize M * (S * 1073741824 ^ 12 - p) = A at *
  generalize 2 * (M * p + -1073741824 ^ 13 * cp) = D at *
  omega
end Go.Proofs.Ytdkmiliehlhmbaa

/- The program's sine as a function of the wrapped angle: its symmetries; how far off the reference's it is. Plain. -/
namespace Go.Proofs.Ytdkmiliehlhmbaa
open Go.Lr Go.Tg
set_option linter.unusedVariables false
set_option linter.unusedSimpArgs false

theorem mm_def (s : Int) : mmV s = if s > 1073741824 then 1073741824 else if s < -1073741824 then -1073741824 else s := by
  unfold mmV; (repeat' split) <;> omega
theorem mm_bd (s : Int) : nb (mmV s) 1073741824 := by
  rw [mm_def]; unfold nb; (repeat' split) <;> omega
theorem mm_neg (s : Int) : mmV (-s) = -mmV s := by
  rw [mm_def, mm_def]; (repeat' split) <;> omega
theorem mm_err {s v M : Int} (hM : 0 < M) (h : nb (2 * (M * s - v)) (10 * M)) (hv : nb (2048 * v) (2199023255553 * M)) : nb (2 * (M * mmV s - v)) (10 * M) := by
  rw [mm_def]
  unfold nb at *
  split
  · rename_i g
    have := Int.mul_le_mul_of_nonneg_left (show (1073741824 : Int) ≤ s by omega) (show 0 ≤ M by omega)
    omega
  · split
    · rename_i g
      have := Int.mul_le_mul_of_nonneg_left (show s ≤ (-1073741824 : Int) by omega) (show 0 ≤ M by omega)
      omega
    · exact h
theorem Sp_v {x : Int} (hx : nb x 1700000000) : nb (2048 * (1073741824 * Sp x)) (2199023255553 * MN) := by
  have h := Sp_one hx
  rw [show 2048 * (1073741824 * Sp x) = 2199023255552 * Sp x by omega]; exact h
theorem fabs_sm {w : Int} (h : nb w 1152921504606846975) : fabsV w = if w < 0 then -w else w := by
  unfold nb at h; unfold fabsV; (repeat' split) <;> omega
theorem sinF_err {w : Int} (hw : nb w 1686629713) : nb (2 * (MN * sinF w - 1073741824 * Sp w)) (10 * MN) := by
  have hM := MN_pos
  have hx : nb w 1700000000 := hw.le (by omega)
  have hf := fabs_sm (hw.le (show (1686629713 : Int) ≤ 1152921504606846975 by omega))
  unfold sinF
  by_cases c : fabsV w ≤ 843314857
  · rw [decide_eq_true c, cond_true]
    refine mm_err hM ((s0_err ?_).le (by omega)) (Sp_v hx)
    rw [hf] at c; unfold nb; split at c <;> omega
  · rw [decide_eq_false c, cond_false]
    refine mm_err hM ?_ (Sp_v hx)
    rw [hf] at c
    unfold nb at hw
    by_cases n : w < 0
    · rw [if_pos n] at c
      have e : sinX w = 1686629713 - -w := by unfold sinX; rw [hf, if_pos n, wr_i, w64_in (by omega) (by omega)]
      rw [e, decide_eq_true n]
      have hy : nb (1686629713 - -w) 843314857 := by unfold nb; omega
      obtain ⟨c1, c2⟩ := c0_err hy
      obtain ⟨c3, -⟩ := co_eq (w := -w) (by unfold nb; omega)
      have e2 : sinG0 true (1686629713 - -w) = -serV (mulV (1686629713 - -w) (1686629713 - -w) 30) 2 sL2 := by
        show wr IntKind.i64 (0 - _) = _
        unfold nb at c2
        rw [wr_i, w64_in (by omega) (by omega)]; omega
      rw [e2]
      rw [Sp_neg] at c3
      generalize serV (mulV (1686629713 - -w) (1686629713 - -w) 30) 2 sL2 = s at *
      generalize Cp (1686629713 - -w) = cp at *
      generalize Sp w = sp at *
      rw [show MN * -s = -(MN * s) by grind]
      generalize MN * s = ms at *
      generalize MN = M at *
      unfold nb at *
      omega
    · rw [if_neg n] at c
      have e : sinX w = 1686629713 - w := by unfold sinX; rw [hf, if_neg n, wr_i, w64_in (by omega) (by omega)]
      rw [e, decide_eq_false n]
      have hy : nb (1686629713 - w) 843314857 := by unfold nb; omega
      obtain ⟨c1, c2⟩ := c0_err hy
      obtain ⟨c3, -⟩ := co_eq (w := w) (by unfold nb; omega)
      show nb (2 * (MN * serV (mulV (1686629713 - w) (1686629713 - w) 30) 2 sL2 - 1073741824 * Sp w)) (10 * MN)
      generalize serV (mulV (1686629713 - w) (1686629713 - w) 30) 2 sL2 = s at *
      generalize Cp (1686629713 - w) = cp at *
      generalize Sp w = sp at *
      generalize MN * s = ms at *
      generalize MN = M at *
      unfold nb at *
      omega
theorem mul_nn (a b s : Int) : mulV (-a) (-b) s = mulV a b s := by unfold mulV; rw [sat_odd, sat_odd, Int.neg_mul_neg]
theorem rndS_neg (w s : Int) : rndS (-w) s = -rndS w s := by
  unfold rndS
  (repeat' split) <;> first | omega | rw [rnd_odd, sat_odd]
theorem mul_neg1 (a b s : Int) : mulV (-a) b s = -mulV a b s := by unfold mulV; rw [sat_odd, Int.neg_mul, rndS_neg]
theorem sinF_neg {w : Int} (hw : nb w 1686629713) : sinF (-w) = -sinF w := by
  have hf := fabs_sm (hw.le (show (1686629713 : Int) ≤ 1152921504606846975 by omega))
  have hg := fabs_sm (hw.neg.le (show (1686629713 : Int) ≤ 1152921504606846975 by omega))
  have hfg : fabsV (-w) = fabsV w := by rw [hf, hg]; (repeat' split) <;> omega
  unfold sinF
  rw [hfg]
  by_cases c : fabsV w ≤ 843314857
  · rw [decide_eq_true c, cond_true, cond_true, ← mm_neg]
    unfold sinS0
    rw [mul_nn, mul_neg1]
  · rw [decide_eq_false c, cond_false, cond_false, ← mm_neg]
    have ex : sinX (-w) = sinX w := by unfold sinX; rw [hfg]
    rw [ex]
    have hb : nb (sinX w) 843314857 := by
      unfold sinX
      rw [hf] at c ⊢
      unfold nb at *
      split at c
      · rename_i n
        rw [if_pos n, wr_i, w64_in (by omega) (by omega)]; omega
      · rename_i n
        rw [if_neg n, wr_i, w64_in (by omega) (by omega)]; omega
    obtain ⟨-, c2⟩ := c0_err hb
    have key : sinG0 true (sinX w) = -sinG0 false (sinX w) := by
      show wr IntKind.i64 (0 - serV (mulV (sinX w) (sinX w) 30) 2 sL2) = -serV (mulV (sinX w) (sinX w) 30) 2 sL2
      unfold nb at c2
      rw [wr_i, w64_in (by omega) (by omega)]; omega
    rw [hf] at c
    by_cases n : w < 0
    · have n2 : ¬ -w < 0 := by omega
      rw [decide_eq_true n, decide_eq_false n2, key, Int.neg_neg]
    · have n2 : -w < 0 := by rw [if_neg n] at c; omega
      rw [decide_eq_false n, decide_eq_true n2, key]

/-- The angle, folded to the right half. -/
def foldV (w : Int) : Int := if w > 1686629713 then 3373259426 - w else if w < -1686629713 then -3373259426 - w else w
/-- The sine and the cosine, of any whole number. -/
def SG (a : Int) : Int := sinF (foldV (wrapV a))
def CG (a : Int) : Int := SG (1686629713 + a)
theorem fold_bd {w : Int} (h0 : -3373259426 < w) (h1 : w ≤ 3373259426) : nb (foldV w) 1686629713 := by
  unfold foldV nb; (repeat' split) <;> omega
theorem sinF_0 : sinF 0 = 0 := by
  have h := sinF_neg (w := 0) (by unfold nb; omega)
  rw [Int.neg_zero] at h; omega
theorem fold_neg (w : Int) : foldV (-w) = -foldV w := by unfold foldV; (repeat' split) <;> omega
theorem SG_neg (a : Int) : SG (-a) = -SG a := by
  obtain ⟨b0, b1, j, hj⟩ := wrap_spec a
  unfold SG
  by_cases h : wrapV a = 3373259426
  · rw [wrap_unique (a := -a) (w := 3373259426) (k := -j - 1) (by omega) (by omega) (by omega), h, show foldV 3373259426 = 0 by decide, sinF_0]; rfl
  · rw [wrap_unique (a := -a) (w := -wrapV a) (k := -j) (by omega) (by omega) (by omega), fold_neg, sinF_neg (fold_bd b0 b1)]
theorem SG_half (a : Int) : SG (3373259426 - a) = SG a := by
  obtain ⟨b0, b1, j, hj⟩ := wrap_spec a
  unfold SG
  by_cases h : 0 ≤ wrapV a
  · rw [wrap_unique (a := 3373259426 - a) (w := 3373259426 - wrapV a) (k := -j) (by omega) (by omega) (by omega)]
    congr 1
    unfold foldV; (repeat' split) <;> omega
  · rw [wrap_unique (a := 3373259426 - a) (w := -3373259426 - wrapV a) (k := -j + 1) (by omega) (by omega) (by omega)]
    congr 1
    unfold foldV; (repeat' split) <;> omega
theorem SG_bd (a : Int) : nb (SG a) 1073741824 := by
  unfold SG sinF
  cases decide (fabsV (foldV (wrapV a)) ≤ 843314857)
  · exact mm_bd _
  · exact mm_bd _
theorem CG_bd (a : Int) : nb (CG a) 1073741824 := SG_bd _
/-- A quarter turn more. -/
theorem SG_q (a : Int) : SG (a + 1686629713) = CG a := by unfold CG; rw [Int.add_comm]
theorem CG_q (a : Int) : CG (a + 1686629713) = -SG a := by
  unfold CG
  rw [← SG_half, ← SG_neg]
  congr 1; omega
theorem CG_neg (a : Int) : CG (-a) = CG a := by
  unfold CG
  rw [← SG_half]
  congr 1; omega
theorem SG_co (a : Int) : SG (1686629713 - a) = CG a := by
  unfold CG
  rw [← SG_half (1686629713 - a)]
  congr 1; omega
/-- Against the reference's. -/
theorem SG_err {w : Int} (hw : nb w 1686629713) : nb (2 * (MN * SG w - 1073741824 * Sp w)) (10 * MN) := by
  unfold nb at hw
  have e : SG w = sinF w := by
    unfold SG
    rw [wrap_unique (a := w) (w := w) (k := 0) (by omega) (by omega) (by omega)]
    congr 1
    unfold foldV; (repeat' split) <;> omega
  rw [e]; exact sinF_err hw
theorem CG_err {w : Int} (hw : nb w 1686629713) : nb (2 * (MN * CG w - 1073741824 * Cp w)) (11 * MN) := by
  have hM := MN_pos
  have key : ∀ v : Int, 0 ≤ v → v ≤ 1686629713 → nb (2 * (MN * CG v - 1073741824 * Cp v)) (11 * MN) := by
    intro v v0 v1
    have h := SG_err (w := 1686629713 - v) (by unfold nb; omega)
    rw [SG_co] at h
    obtain ⟨-, c⟩ := co_eq (w := v) (by unfold nb; omega)
    generalize MN * CG v = x at *
    generalize Sp (1686629713 - v) = y at *
    generalize Cp v = z at *
    generalize MN = M at *
    unfold nb at *
    omega
  unfold nb at hw
  rcases Int.le_total 0 w with h | h
  · exact key w h (by omega)
  · have := key (-w) (by omega) (by omega)
    rw [CG_neg, Cp_neg] at this
    exact this
end Go.Proofs.Ytdkmiliehlhmbaa

/- The sine and the cosine of a sum of angles (within 28), and on the circle. Plain. -/
namespace Go.Proofs.Ytdkmiliehlhmbaa
open Go.Lr Go.Tg
set_option linter.unusedVariables false
set_option linter.unusedSimpArgs false

/-- Two products of numbers, each near its reference. -/
theorem prod_err {M a b c d x y z w : Int} (hM : 0 < M) (ha : nb a 1073741824) (hb : nb b 1073741824) (hc : nb c 1073741824) (hd : nb d 1073741824)
    (ea : nb (2 * (M * a - 1073741824 * x)) (11 * M)) (eb : nb (2 * (M * b - 1073741824 * y)) (11 * M)) (ec : nb (2 * (M * c - 1073741824 * z)) (11 * M)) (ed : nb (2 * (M * d - 1073741824 * w)) (11 * M)) :
    nb (4 * (M * M * (a * b + c * d) - 1152921504606846976 * (x * y + z * w))) (M * M * 94489281000) := by
  have p1 := (((hb.mul ea).add (ha.mul eb)).add ((hd.mul ec).add (hc.mul ed))).lmul (show 0 ≤ M by omega)
  have p2 := (ea.mul eb).add (ec.mul ed)
  have e : 4 * (M * M * (a * b + c * d) - 1152921504606846976 * (x * y + z * w)) = 2 * (M * (b * (2 * (M * a - 1073741824 * x)) + a * (2 * (M * b - 1073741824 * y)) + (d * (2 * (M * c - 1073741824 * z)) + c * (2 * (M * d - 1073741824 * w)))))
      - (2 * (M * a - 1073741824 * x) * (2 * (M * b - 1073741824 * y)) + 2 * (M * c - 1073741824 * z) * (2 * (M * d - 1073741824 * w))) := by grind
  rw [e]
  have e1 : M * (1073741824 * (11 * M) + 1073741824 * (11 * M) + (1073741824 * (11 * M) + 1073741824 * (11 * M))) = 47244640256 * (M * M) := by grind
  have e2 : 11 * M * (11 * M) + 11 * M * (11 * M) = 242 * (M * M) := by grind
  rw [e1] at p1
  rw [e2] at p2
  have hMM : 0 ≤ M * M := Int.mul_nonneg (by omega) (by omega)
  have e3 : M * M * 94489281000 = 94489281000 * (M * M) := by grind
  rw [e3]
  unfold nb at p1 p2 ⊢
  generalize M * (b * (2 * (M * a - 1073741824 * x)) + a * (2 * (M * b - 1073741824 * y)) + (d * (2 * (M * c - 1073741824 * z)) + c * (2 * (M * d - 1073741824 * w)))) = A at *
  generalize 2 * (M * a - 1073741824 * x) * (2 * (M * b - 1073741824 * y)) + 2 * (M * c - 1073741824 * z) * (2 * (M * d - 1073741824 * w)) = B at *
  generalize M * M = MM at *
  omega
/-- From the reference's sum to the program's. -/
theorem sum_err {M X v r q : Int} (hM : 0 < M) (h1 : nb (4 * (M * M * X - 1152921504606846976 * q)) (M * M * 94489281000)) (h2 : nb (1099511627776 * (q - M * r)) (M * M)) (h3 : nb (2 * (M * v - 1073741824 * r)) (11 * M)) :
    nb (X - 1073741824 * v) 30064771072 := by
  refine nb.cancel (m := M * M) (Int.mul_pos hM hM) ?_
  have p3 := h3.lmul (show 0 ≤ M by omega)
  have e : M * M * (X - 1073741824 * v) = (M * M * X - 1152921504606846976 * q) + 1152921504606846976 * (q - M * r) - 1073741824 * (M * (M * v - 1073741824 * r)) := by grind
  have e1 : M * (2 * (M * v - 1073741824 * r)) = 2 * (M * (M * v - 1073741824 * r)) := by grind
  have e2 : M * (11 * M) = 11 * (M * M) := by grind
  rw [e1, e2] at p3
  rw [e]
  have hMM : 0 ≤ M * M := Int.mul_nonneg (by omega) (by omega)
  unfold nb at *
  generalize M * M * X - 1152921504606846976 * q = A at *
  generalize M * (M * v - 1073741824 * r) = B at *
  generalize q - M * r = D at *
  generalize M * M = MM at *
  omega
/-- The angles' sum. -/
def SumQ (a b : Int) : Prop := nb (CG a * CG b - SG a * SG b - 1073741824 * CG (a + b)) 30064771072 ∧ nb (SG a * CG b + CG a * SG b - 1073741824 * SG (a + b)) 30064771072
theorem sum_base {a b : Int} (ha : nb a 843314856) (hb : nb b 843314856) : SumQ a b := by
  have hM := MN_pos
  have hs : nb (a + b) 1686629713 := (ha.add hb).le (by omega)
  have a1 := CG_err (ha.le (show (843314856 : Int) ≤ 1686629713 by omega))
  have a2 := (SG_err (ha.le (show (843314856 : Int) ≤ 1686629713 by omega))).le (show 10 * MN ≤ 11 * MN by omega)
  have b1 := CG_err (hb.le (show (843314856 : Int) ≤ 1686629713 by omega))
  have b2 := (SG_err (hb.le (show (843314856 : Int) ≤ 1686629713 by omega))).le (show 10 * MN ≤ 11 * MN by omega)
  have s1 := CG_err hs
  have s2 := (SG_err hs).le (show 10 * MN ≤ 11 * MN by omega)
  have c := add_c (ha.le (show (843314856 : Int) ≤ 1700000000 by omega)) (hb.le (show (843314856 : Int) ≤ 1700000000 by omega))
  have s := add_s (ha.le (show (843314856 : Int) ≤ 1700000000 by omega)) (hb.le (show (843314856 : Int) ≤ 1700000000 by omega))
  have neg : ∀ {u v : Int}, nb (2 * (MN * u - 1073741824 * v)) (11 * MN) → nb (2 * (MN * -u - 1073741824 * -v)) (11 * MN) := by
    intro u v h
    have e : 2 * (MN * -u - 1073741824 * -v) = -(2 * (MN * u - 1073741824 * v)) := by grind
    rw [e]; exact h.neg
  constructor
  · have p := prod_err hM (CG_bd a) (CG_bd b) (SG_bd a).neg (SG_bd b) a1 b1 (neg a2) b2
    have q := sum_err (v := CG (a + b)) (r := Cp (a + b)) hM p (by rw [Int.neg_mul]; exact c) s1
    rw [Int.neg_mul] at q
    exact q
  · have p := prod_err hM (SG_bd a) (CG_bd b) (CG_bd a) (SG_bd b) a2 b1 a1 b2
    exact sum_err hM p s s2
theorem sum_up {a b : Int} : SumQ (a + 1686629713) b ↔ SumQ a b := by
  unfold SumQ
  rw [show a + 1686629713 + b = a + b + 1686629713 by omega, CG_q, CG_q, SG_q, SG_q, Int.neg_mul, Int.neg_mul]
  generalize CG a * CG b = x
  generalize SG a * SG b = y
  generalize SG a * CG b = z
  generalize CG a * SG b = t
  unfold nb
  omega
theorem sum_comm {a b : Int} (h : SumQ a b) : SumQ b a := by
  unfold SumQ at *
  rw [Int.add_comm b a, Int.mul_comm (CG b), Int.mul_comm (SG b), Int.mul_comm (SG b), Int.mul_comm (CG b), Int.add_comm (CG a * SG b)]
  exact h
theorem sum_nat {a b : Int} : ∀ n : Nat, SumQ (a + n * 1686629713) b ↔ SumQ a b
  | 0 => by rw [show a + ((0 : Nat) : Int) * 1686629713 = a by omega]
  | n + 1 => by
    rw [show a + ((n + 1 : Nat) : Int) * 1686629713 = a + (n : Int) * 1686629713 + 1686629713 by omega, sum_up]
    exact sum_nat n
theorem sum_int {a b : Int} (k : Int) : SumQ (a + k * 1686629713) b ↔ SumQ a b := by
  rcases Int.le_total 0 k with h | h
  · have := sum_nat (a := a) (b := b) k.toNat
    rw [show ((k.toNat : Nat) : Int) = k by omega] at this
    exact this
  · have := sum_nat (a := a + k * 1686629713) (b := b) (-k).toNat
    rw [show a + k * 1686629713 + (((-k).toNat : Nat) : Int) * 1686629713 = a by
      rw [show (((-k).toNat : Nat) : Int) = -k by omega]; omega] at this
    exact this.symm
theorem to_base (a : Int) : ∃ x k, a = x + k * 1686629713 ∧ nb x 843314856 := by
  refine ⟨a - (a + 843314856) / 1686629713 * 1686629713, (a + 843314856) / 1686629713, by omega, ?_⟩
  unfold nb; omega
/-- The sum of any two angles. -/
theorem sum_all (a b : Int) : SumQ a b := by
  obtain ⟨x, k, rfl, hx⟩ := to_base a
  obtain ⟨y, l, rfl, hy⟩ := to_base b
  exact (sum_int k).2 (sum_comm ((sum_int l).2 (sum_comm (sum_base hx hy))))
theorem CG_0 : CG 0 = 1073741824 := by decide +kernel
/-- On the circle. -/
theorem on_circle (a : Int) : nb (CG a * CG a + SG a * SG a - 1152921504606846976) 30064771072 := by
  have h := (sum_all a (-a)).1
  rw [CG_neg, SG_neg, show a + -a = 0 by omega, CG_0, Int.mul_neg] at h
  generalize CG a * CG a = x at *
  generalize SG a * SG a = y at *
  unfold nb at *
  omega
end Go.Proofs.Ytdkmiliehlhmbaa

/- The program's angle of a tangent against the reference's sine and cosine. Plain. -/
namespace Go.Proofs.Ytdkmiliehlhmbaa
open Go.Lr Go.Tg
set_option linter.unusedVariables false
set_option linter.unusedSimpArgs false

end Go.Proofs.Ytdkmiliehlhmbaa

/- The program's angle of a point: the point lies in that direction (within 81). Plain. -/
namespace Go.Proofs.Ytdkmiliehlhmbaa
open Go.Lr Go.Tg
set_option linter.unusedVariables false
set_option linter.unusedSimpArgs false

end Go.Proofs.Ytdkmiliehlhmbaa

/- Nothing is clamped in sines, cosines, angles. Plain. -/
namespace Go.Proofs.Ytdkmiliehlhmbaa
open Go.Lr Go.Tg
set_option linter.unusedVariables false
set_option linter.unusedSimpArgs false

end Go.Proofs.Ytdkmiliehlhmbaa

/- The laws of sines, cosines and angles, in plain numbers. -/
namespace Go.Proofs.Ytdkmiliehlhmbaa
open Go.Lr Go.Tg
set_option linter.unusedVariables false
set_option linter.unusedSimpArgs false

/-- A sum of two products. -/
theorem dot2 {x0 x1 y0 y1 : Int} (a0 : nb x0 4294967296) (a1 : nb x1 4294967296) (b0 : nb y0 4294967296) (b1 : nb y1 4294967296) :
    nb (2 * (dotV 30 [x0, x1] [y0, y1] * 1073741824 - (x0 * y0 + x1 * y1))) 1073741824 ∧ dotH 30 [x0, x1] [y0, y1] = false := by
  have m0 := a0.mul b0
  have m1 := a1.mul b1
  unfold nb at a0 a1 b0 b1 m0 m1
  have e : dotS [x0, x1] [y0, y1] = x0 * y0 + x1 * y1 := by
    simp only [dotS]
    rw [sat_in (a := x0) (by omega) (by omega), sat_in (a := x1) (by omega) (by omega), sat_in (a := y0) (by omega) (by omega), sat_in (a := y1) (by omega) (by omega)]
    omega
  have f : dotFl [x0, x1] [y0, y1] = false := by
    simp only [dotFl]
    rw [satH_in (a := x0) (by omega) (by omega), satH_in (a := x1) (by omega) (by omega), satH_in (a := y0) (by omega) (by omega), satH_in (a := y1) (by omega) (by omega)]
    rfl
  have hb := rnd_bd (x0 * y0 + x1 * y1) 30
  rw [show pow2 30 = 1073741824 from rfl] at hb
  have g : rndS (x0 * y0 + x1 * y1) 30 = rndV (x0 * y0 + x1 * y1) 30 ∧ rndH (x0 * y0 + x1 * y1) 30 = false := by
    unfold rndS rndH
    rw [if_neg (by decide), if_neg (by decide), show Int.toNat 30 = 30 from rfl, sat_in (by omega) (by omega), satH_in (by omega) (by omega)]
    exact ⟨rfl, by decide⟩
  constructor
  · show nb (2 * (rndS (dotS [x0, x1] [y0, y1]) 30 * 1073741824 - (x0 * y0 + x1 * y1))) 1073741824
    rw [e, g.1]; exact hb
  · show (dotFl [x0, x1] [y0, y1] || rndH (dotS [x0, x1] [y0, y1]) 30) = false
    rw [e, f, g.2]; rfl
theorem circle (a : Int) : nb (dotV 30 [SG a, CG a] [SG a, CG a] - 1073741824) 29 ∧ dotH 30 [SG a, CG a] [SG a, CG a] = false := by
  obtain ⟨d, f⟩ := dot2 ((SG_bd a).le (show (1073741824 : Int) ≤ 4294967296 by omega)) ((CG_bd a).le (show (1073741824 : Int) ≤ 4294967296 by omega)) ((SG_bd a).le (show (1073741824 : Int) ≤ 4294967296 by omega)) ((CG_bd a).le (show (1073741824 : Int) ≤ 4294967296 by omega))
  have h := on_circle a
  refine ⟨?_, f⟩
  unfold nb at *; omega
theorem sqnn0 (a : Int) : 0 ≤ a * a := by
  rcases Int.le_total 0 a with k | k
  · exact Int.mul_nonneg k k
  · exact Int.mul_nonneg_of_nonpos_of_nonpos k k
end Go.Proofs.Ytdkmiliehlhmbaa

/- Directions: a Unit's; of twice an angle; headings in plain numbers. -/
namespace Go.Proofs.Ytdkmiliehlhmbaa
open Go.Lr Go.Tg
set_option linter.unusedVariables false
set_option linter.unusedSimpArgs false

/-- A number rounded at the thirtieth place. -/
theorem rn30 (w : Int) : nb (2 * (rndV w 30 * 1073741824 - w)) 1073741824 := by
  have h := rnd_bd w 30
  rw [show pow2 30 = 1073741824 from rfl] at h
  exact h
end Go.Proofs.Ytdkmiliehlhmbaa

/- Units of numbers that nearly have length one; a vector's length; the exponential in plain numbers. -/
namespace Go.Proofs.Ytdkmiliehlhmbaa
open Go.Lr Go.Tg
set_option linter.unusedVariables false
set_option linter.unusedSimpArgs false

theorem inS_nb {a k : Int} (h : nb a k) (hk : k ≤ 1152921504606846976) : inS a := by unfold nb at h; unfold inS; omega
theorem satH_S {a : Int} (h : inS a) : satH a = false := satH_in h.1 h.2
theorem satV_S {a : Int} (h : inS a) : satV a = a := sat_in h.1 h.2
end Go.Proofs.Ytdkmiliehlhmbaa

/- The exponential near its direction; half a rotation twice. Plain. -/
namespace Go.Proofs.Ytdkmiliehlhmbaa
open Go.Lr Go.Tg
set_option linter.unusedVariables false
set_option linter.unusedSimpArgs false

/-- The exponential: near the cosine, and the vector's part of the sine. -/
structure ExpN (v0 v1 v2 n al C S d0 d1 d2 : Int) : Prop where
  n1 : 1 ≤ n
  al2 : nb (2 * al - n) 1
  al0 : 0 ≤ al
  eC : C = CG al
  eS : S = SG al
  b0 : nb v0 n
  b1 : nb v1 n
  b2 : nb v2 n
  hv : nb (v0 * v0 + (v1 * v1 + v2 * v2) - n * n) n
  e0 : nb (2 * (n * d0 - v0 * S)) (5 * n)
  e1 : nb (2 * (n * d1 - v1 * S)) (5 * n)
  e2 : nb (2 * (n * d2 - v2 * S)) (5 * n)
  x0 : nb (eV0 v0 v1 v2 - C) 28
  x1 : nb (eV1 v0 v1 v2 - d0) 28
  x2 : nb (eV2 v0 v1 v2 - d1) 28
  x3 : nb (eV3 v0 v1 v2 - d2) 28
  sn : nb S (n + 1)
end Go.Proofs.Ytdkmiliehlhmbaa

/- Half a rotation twice, all cases; small rotations; turned vectors. Plain. -/
namespace Go.Proofs.Ytdkmiliehlhmbaa
open Go.Lr Go.Tg
set_option linter.unusedVariables false
set_option linter.unusedSimpArgs false

end Go.Proofs.Ytdkmiliehlhmbaa

/- Matrices of Units: turned vectors. Plain. -/
namespace Go.Proofs.Ytdkmiliehlhmbaa
open Go.Lr Go.Tg
set_option linter.unusedVariables false
set_option linter.unusedSimpArgs false

/-- A row times a vector. -/
theorem dot3 {x0 x1 x2 y0 y1 y2 : Int} (a0 : nb x0 4294967296) (a1 : nb x1 4294967296) (a2 : nb x2 4294967296) (b0 : nb y0 4398046511104) (b1 : nb y1 4398046511104) (b2 : nb y2 4398046511104) :
    nb (2 * (dotV 30 [x0, x1, x2] [y0, y1, y2] * 1073741824 - (x0 * y0 + x1 * y1 + x2 * y2))) 1073741824 ∧ dotH 30 [x0, x1, x2] [y0, y1, y2] = false := by
  have m0 := a0.mul b0
  have m1 := a1.mul b1
  have m2 := a2.mul b2
  have i0 := inS_nb a0 (by omega)
  have i1 := inS_nb a1 (by omega)
  have i2 := inS_nb a2 (by omega)
  have j0 := inS_nb b0 (by omega)
  have j1 := inS_nb b1 (by omega)
  have j2 := inS_nb b2 (by omega)
  have e : dotS [x0, x1, x2] [y0, y1, y2] = x0 * y0 + x1 * y1 + x2 * y2 := by
    simp only [dotS]
    rw [satV_S i0, satV_S i1, satV_S i2, satV_S j0, satV_S j1, satV_S j2]
    omega
  have f : dotFl [x0, x1, x2] [y0, y1, y2] = false := by
    simp only [dotFl]
    rw [satH_S i0, satH_S i1, satH_S i2, satH_S j0, satH_S j1, satH_S j2]
    rfl
  have hb := rn30 (x0 * y0 + x1 * y1 + x2 * y2)
  have g : rndS (x0 * y0 + x1 * y1 + x2 * y2) 30 = rndV (x0 * y0 + x1 * y1 + x2 * y2) 30 ∧ rndH (x0 * y0 + x1 * y1 + x2 * y2) 30 = false := by
    unfold nb at *
    unfold rndS rndH
    rw [if_neg (by decide), if_neg (by decide), show Int.toNat 30 = 30 from rfl, sat_in (by omega) (by omega), satH_in (by omega) (by omega)]
    exact ⟨rfl, by decide⟩
  constructor
  · show nb (2 * (rndS (dotS [x0, x1, x2] [y0, y1, y2]) 30 * 1073741824 - (x0 * y0 + x1 * y1 + x2 * y2))) 1073741824
    rw [e, g.1]; exact hb
  · show (dotFl [x0, x1, x2] [y0, y1, y2] || rndH (dotS [x0, x1, x2] [y0, y1, y2]) 30) = false
    rw [e, f, g.2]; rfl
/-- The columns of a matrix: of length one, upright on one another. -/
structure Cols (m0 m1 m2 m3 m4 m5 m6 m7 m8 : Int) : Prop where
  c00 : nb (m0 * m0 + m3 * m3 + m6 * m6 - 1152921504606846976) 11811160064
  c11 : nb (m1 * m1 + m4 * m4 + m7 * m7 - 1152921504606846976) 11811160064
  c22 : nb (m2 * m2 + m5 * m5 + m8 * m8 - 1152921504606846976) 11811160064
  c01 : nb (m0 * m1 + m3 * m4 + m6 * m7) 4294967296
  c02 : nb (m0 * m2 + m3 * m5 + m6 * m8) 4294967296
  c12 : nb (m1 * m2 + m4 * m5 + m7 * m8) 4294967296
  b0 : nb m0 1073741830
  b1 : nb m1 1073741830
  b2 : nb m2 1073741830
  b3 : nb m3 1073741830
  b4 : nb m4 1073741830
  b5 : nb m5 1073741830
  b6 : nb m6 1073741830
  b7 : nb m7 1073741830
  b8 : nb m8 1073741830
end Go.Proofs.Ytdkmiliehlhmbaa

/- The law FlowRates: its runs, and why they answer true. -/
namespace Go.Proofs.Ytdkmiliehlhmbaa
open Go.Lr Go.RowKit Go.Tg
set_option linter.unusedVariables false
set_option linter.unusedSimpArgs false

theorem frM (hd mm nv ev : Int) : (runF Try.prog S61 Zl 4000 3 [I hd, I mm, I nv, I ev] [] 0 (nn 1 (ff 16 (nn 6 (ff 8 (nn 1 (ff 8 []))))))).map (fun r => (r.1, r.2.2.2)) = some (LV.v (V1.one (At.bool !(rmF (rmF (false || satH (fy0 hd) || satH (fy1 hd) || satH (fy2 hd) || satH (fy3 hd)) (satV (fy0 hd)) (satV (fy1 hd)) (satV (fy2 hd)) (satV (fy3 hd)) || divPH (wr IntKind.i64 (0 - mulDivV mm 1073741824 1000)) (rm8 (satV (fy0 hd)) (satV (fy1 hd)) (satV (fy2 hd)) (satV (fy3 hd))) 30 || satH (fy0 hd) || satH (fy1 hd) || satH (fy2 hd) || satH (fy3 hd)) (satV (fy0 hd)) (satV (fy1 hd)) (satV (fy2 hd)) (satV (fy3 hd)) || dotH 30 [rm0 (satV (fy0 hd)) (satV (fy1 hd)) (satV (fy2 hd)) (satV (fy3 hd)), rm3 (satV (fy0 hd)) (satV (fy1 hd)) (satV (fy2 hd)) (satV (fy3 hd)), rm6 (satV (fy0 hd)) (satV (fy1 hd)) (satV (fy2 hd)) (satV (fy3 hd))] [nv, ev, 0] || dotH 30 [rm1 (satV (fy0 hd)) (satV (fy1 hd)) (satV (fy2 hd)) (satV (fy3 hd)), rm4 (satV (fy0 hd)) (satV (fy1 hd)) (satV (fy2 hd)) (satV (fy3 hd)), rm7 (satV (fy0 hd)) (satV (fy1 hd)) (satV (fy2 hd)) (satV (fy3 hd))] [nv, ev, 0] || dotH 30 [rm2 (satV (fy0 hd)) (satV (fy1 hd)) (satV (fy2 hd)) (satV (fy3 hd)), rm5 (satV (fy0 hd)) (satV (fy1 hd)) (satV (fy2 hd)) (satV (fy3 hd)), rm8 (satV (fy0 hd)) (satV (fy1 hd)) (satV (fy2 hd)) (satV (fy3 hd))] [nv, ev, 0] || divPH (dotV 30 [rm1 (satV (fy0 hd)) (satV (fy1 hd)) (satV (fy2 hd)) (satV (fy3 hd)), rm4 (satV (fy0 hd)) (satV (fy1 hd)) (satV (fy2 hd)) (satV (fy3 hd)), rm7 (satV (fy0 hd)) (satV (fy1 hd)) (satV (fy2 hd)) (satV (fy3 hd))] [nv, ev, 0]) (wr IntKind.i64 (0 - divPV (wr IntKind.i64 (0 - mulDivV mm 1073741824 1000)) (rm8 (satV (fy0 hd)) (satV (fy1 hd)) (satV (fy2 hd)) (satV (fy3 hd))) 30)) 30 || subH (divPV (dotV 30 [t1V (satV (fy1 hd)) (satV (fy2 hd)) (wr IntKind.i64 (0 - satV (fy0 hd))) (satV (fy3 hd)), s1V 1 (-1) 1 (-1) (satV (fy0 hd)) (satV (fy1 hd)) (satV (fy2 hd)) (satV (fy3 hd)), t1V (satV (fy2 hd)) (satV (fy3 hd)) (satV (fy0 hd)) (satV (fy1 hd))] [nv, ev, 0]) (mulDivV mm 1073741824 1000) 30) (divPV (dotV 30 [rm1 (satV (fy0 hd)) (satV (fy1 hd)) (satV (fy2 hd)) (satV (fy3 hd)), rm4 (satV (fy0 hd)) (satV (fy1 hd)) (satV (fy2 hd)) (satV (fy3 hd)), rm7 (satV (fy0 hd)) (satV (fy1 hd)) (satV (fy2 hd)) (satV (fy3 hd))] [nv, ev, 0]) (wr IntKind.i64 (0 - divPV (wr IntKind.i64 (0 - mulDivV mm 1073741824 1000)) (rm8 (satV (fy0 hd)) (satV (fy1 hd)) (satV (fy2 hd)) (satV (fy3 hd))) 30)) 30) || divPH (dotV 30 [rm0 (satV (fy0 hd)) (satV (fy1 hd)) (satV (fy2 hd)) (satV (fy3 hd)), rm3 (satV (fy0 hd)) (satV (fy1 hd)) (satV (fy2 hd)) (satV (fy3 hd)), rm6 (satV (fy0 hd)) (satV (fy1 hd)) (satV (fy2 hd)) (satV (fy3 hd))] [nv, ev, 0]) (wr IntKind.i64 (0 - divPV (wr IntKind.i64 (0 - mulDivV mm 1073741824 1000)) (rm8 (satV (fy0 hd)) (satV (fy1 hd)) (satV (fy2 hd)) (satV (fy3 hd))) 30)) 30 || subH (wr IntKind.i64 (0 - divPV (dotV 30 [s1V 1 1 (-1) (-1) (satV (fy0 hd)) (satV (fy1 hd)) (satV (fy2 hd)) (satV (fy3 hd)), t1V (satV (fy1 hd)) (satV (fy2 hd)) (satV (fy0 hd)) (satV (fy3 hd)), t1V (satV (fy1 hd)) (satV (fy3 hd)) (wr IntKind.i64 (0 - satV (fy0 hd))) (satV (fy2 hd))] [nv, ev, 0]) (mulDivV mm 1073741824 1000) 30)) (wr IntKind.i64 (0 - divPV (dotV 30 [rm0 (satV (fy0 hd)) (satV (fy1 hd)) (satV (fy2 hd)) (satV (fy3 hd)), rm3 (satV (fy0 hd)) (satV (fy1 hd)) (satV (fy2 hd)) (satV (fy3 hd)), rm6 (satV (fy0 hd)) (satV (fy1 hd)) (satV (fy2 hd)) (satV (fy3 hd))] [nv, ev, 0]) (wr IntKind.i64 (0 - divPV (wr IntKind.i64 (0 - mulDivV mm 1073741824 1000)) (rm8 (satV (fy0 hd)) (satV (fy1 hd)) (satV (fy2 hd)) (satV (fy3 hd))) 30)) 30)) || divPH (rm1 (satV (fy0 hd)) (satV (fy1 hd)) (satV (fy2 hd)) (satV (fy3 hd))) (wr IntKind.i64 (0 - divPV (wr IntKind.i64 (0 - mulDivV mm 1073741824 1000)) (rm8 (satV (fy0 hd)) (satV (fy1 hd)) (satV (fy2 hd)) (satV (fy3 hd))) 30)) 30 || divPH (rm0 (satV (fy0 hd)) (satV (fy1 hd)) (satV (fy2 hd)) (satV (fy3 hd))) (wr IntKind.i64 (0 - divPV (wr IntKind.i64 (0 - mulDivV mm 1073741824 1000)) (rm8 (satV (fy0 hd)) (satV (fy1 hd)) (satV (fy2 hd)) (satV (fy3 hd))) 30)) 30 || divPH (rm4 (satV (fy0 hd)) (satV (fy1 hd)) (satV (fy2 hd)) (satV (fy3 hd))) (wr IntKind.i64 (0 - divPV (wr IntKind.i64 (0 - mulDivV mm 1073741824 1000)) (rm8 (satV (fy0 hd)) (satV (fy1 hd)) (satV (fy2 hd)) (satV (fy3 hd))) 30)) 30 || divPH (rm3 (satV (fy0 hd)) (satV (fy1 hd)) (satV (fy2 hd)) (satV (fy3 hd))) (wr IntKind.i64 (0 - divPV (wr IntKind.i64 (0 - mulDivV mm 1073741824 1000)) (rm8 (satV (fy0 hd)) (satV (fy1 hd)) (satV (fy2 hd)) (satV (fy3 hd))) 30)) 30 || divPH (rm7 (satV (fy0 hd)) (satV (fy1 hd)) (satV (fy2 hd)) (satV (fy3 hd))) (wr IntKind.i64 (0 - divPV (wr IntKind.i64 (0 - mulDivV mm 1073741824 1000)) (rm8 (satV (fy0 hd)) (satV (fy1 hd)) (satV (fy2 hd)) (satV (fy3 hd))) 30)) 30 || divPH (rm6 (satV (fy0 hd)) (satV (fy1 hd)) (satV (fy2 hd)) (satV (fy3 hd))) (wr IntKind.i64 (0 - divPV (wr IntKind.i64 (0 - mulDivV mm 1073741824 1000)) (rm8 (satV (fy0 hd)) (satV (fy1 hd)) (satV (fy2 hd)) (satV (fy3 hd))) 30)) 30))), [(decide (subV (wr IntKind.i64 (0 - divPV (dotV 30 [s1V 1 1 (-1) (-1) (satV (fy0 hd)) (satV (fy1 hd)) (satV (fy2 hd)) (satV (fy3 hd)), t1V (satV (fy1 hd)) (satV (fy2 hd)) (satV (fy0 hd)) (satV (fy3 hd)), t1V (satV (fy1 hd)) (satV (fy3 hd)) (wr IntKind.i64 (0 - satV (fy0 hd))) (satV (fy2 hd))] [nv, ev, 0]) (mulDivV mm 1073741824 1000) 30)) (wr IntKind.i64 (0 - divPV (dotV 30 [rm0 (satV (fy0 hd)) (satV (fy1 hd)) (satV (fy2 hd)) (satV (fy3 hd)), rm3 (satV (fy0 hd)) (satV (fy1 hd)) (satV (fy2 hd)) (satV (fy3 hd)), rm6 (satV (fy0 hd)) (satV (fy1 hd)) (satV (fy2 hd)) (satV (fy3 hd))] [nv, ev, 0]) (wr IntKind.i64 (0 - divPV (wr IntKind.i64 (0 - mulDivV mm 1073741824 1000)) (rm8 (satV (fy0 hd)) (satV (fy1 hd)) (satV (fy2 hd)) (satV (fy3 hd))) 30)) 30)) < -4096), false), (decide (subV (wr IntKind.i64 (0 - divPV (dotV 30 [s1V 1 1 (-1) (-1) (satV (fy0 hd)) (satV (fy1 hd)) (satV (fy2 hd)) (satV (fy3 hd)), t1V (satV (fy1 hd)) (satV (fy2 hd)) (satV (fy0 hd)) (satV (fy3 hd)), t1V (satV (fy1 hd)) (satV (fy3 hd)) (wr IntKind.i64 (0 - satV (fy0 hd))) (satV (fy2 hd))] [nv, ev, 0]) (mulDivV mm 1073741824 1000) 30)) (wr IntKind.i64 (0 - divPV (dotV 30 [rm0 (satV (fy0 hd)) (satV (fy1 hd)) (satV (fy2 hd)) (satV (fy3 hd)), rm3 (satV (fy0 hd)) (satV (fy1 hd)) (satV (fy2 hd)) (satV (fy3 hd)), rm6 (satV (fy0 hd)) (satV (fy1 hd)) (satV (fy2 hd)) (satV (fy3 hd))] [nv, ev, 0]) (wr IntKind.i64 (0 - divPV (wr IntKind.i64 (0 - mulDivV mm 1073741824 1000)) (rm8 (satV (fy0 hd)) (satV (fy1 hd)) (satV (fy2 hd)) (satV (fy3 hd))) 30)) 30)) > 4096), false), (decide (subV (wr IntKind.i64 (0 - divPV (dotV 30 [s1V 1 1 (-1) (-1) (satV (fy0 hd)) (satV (fy1 hd)) (satV (fy2 hd)) (satV (fy3 hd)), t1V (satV (fy1 hd)) (satV (fy2 hd)) (satV (fy0 hd)) (satV (fy3 hd)), t1V (satV (fy1 hd)) (satV (fy3 hd)) (wr IntKind.i64 (0 - satV (fy0 hd))) (satV (fy2 hd))] [nv, ev, 0]) (mulDivV mm 1073741824 1000) 30)) (wr IntKind.i64 (0 - divPV (dotV 30 [rm0 (satV (fy0 hd)) (satV (fy1 hd)) (satV (fy2 hd)) (satV (fy3 hd)), rm3 (satV (fy0 hd)) (satV (fy1 hd)) (satV (fy2 hd)) (satV (fy3 hd)), rm6 (satV (fy0 hd)) (satV (fy1 hd)) (satV (fy2 hd)) (satV (fy3 hd))] [nv, ev, 0]) (wr IntKind.i64 (0 - divPV (wr IntKind.i64 (0 - mulDivV mm 1073741824 1000)) (rm8 (satV (fy0 hd)) (satV (fy1 hd)) (satV (fy2 hd)) (satV (fy3 hd))) 30)) 30)) > 4096), false), (decide (subV (wr IntKind.i64 (0 - divPV (dotV 30 [s1V 1 1 (-1) (-1) (satV (fy0 hd)) (satV (fy1 hd)) (satV (fy2 hd)) (satV (fy3 hd)), t1V (satV (fy1 hd)) (satV (fy2 hd)) (satV (fy0 hd)) (satV (fy3 hd)), t1V (satV (fy1 hd)) (satV (fy3 hd)) (wr IntKind.i64 (0 - satV (fy0 hd))) (satV (fy2 hd))] [nv, ev, 0]) (mulDivV mm 1073741824 1000) 30)) (wr IntKind.i64 (0 - divPV (dotV 30 [rm0 (satV (fy0 hd)) (satV (fy1 hd)) (satV (fy2 hd)) (satV (fy3 hd)), rm3 (satV (fy0 hd)) (satV (fy1 hd)) (satV (fy2 hd)) (satV (fy3 hd)), rm6 (satV (fy0 hd)) (satV (fy1 hd)) (satV (fy2 hd)) (satV (fy3 hd))] [nv, ev, 0]) (wr IntKind.i64 (0 - divPV (wr IntKind.i64 (0 - mulDivV mm 1073741824 1000)) (rm8 (satV (fy0 hd)) (satV (fy1 hd)) (satV (fy2 hd)) (satV (fy3 hd))) 30)) 30)) > 4096), false), (decide (subV (wr IntKind.i64 (0 - divPV (dotV 30 [s1V 1 1 (-1) (-1) (satV (fy0 hd)) (satV (fy1 hd)) (satV (fy2 hd)) (satV (fy3 hd)), t1V (satV (fy1 hd)) (satV (fy2 hd)) (satV (fy0 hd)) (satV (fy3 hd)), t1V (satV (fy1 hd)) (satV (fy3 hd)) (wr IntKind.i64 (0 - satV (fy0 hd))) (satV (fy2 hd))] [nv, ev, 0]) (mulDivV mm 1073741824 1000) 30)) (wr IntKind.i64 (0 - divPV (dotV 30 [rm0 (satV (fy0 hd)) (satV (fy1 hd)) (satV (fy2 hd)) (satV (fy3 hd)), rm3 (satV (fy0 hd)) (satV (fy1 hd)) (satV (fy2 hd)) (satV (fy3 hd)), rm6 (satV (fy0 hd)) (satV (fy1 hd)) (satV (fy2 hd)) (satV (fy3 hd))] [nv, ev, 0]) (wr IntKind.i64 (0 - divPV (wr IntKind.i64 (0 - mulDivV mm 1073741824 1000)) (rm8 (satV (fy0 hd)) (satV (fy1 hd)) (satV (fy2 hd)) (satV (fy3 hd))) 30)) 30)) > 4096), false), (decide (subV (wr IntKind.i64 (0 - divPV (dotV 30 [s1V 1 1 (-1) (-1) (satV (fy0 hd)) (satV (fy1 hd)) (satV (fy2 hd)) (satV (fy3 hd)), t1V (satV (fy1 hd)) (satV (fy2 hd)) (satV (fy0 hd)) (satV (fy3 hd)), t1V (satV (fy1 hd)) (satV (fy3 hd)) (wr IntKind.i64 (0 - satV (fy0 hd))) (satV (fy2 hd))] [nv, ev, 0]) (mulDivV mm 1073741824 1000) 30)) (wr IntKind.i64 (0 - divPV (dotV 30 [rm0 (satV (fy0 hd)) (satV (fy1 hd)) (satV (fy2 hd)) (satV (fy3 hd)), rm3 (satV (fy0 hd)) (satV (fy1 hd)) (satV (fy2 hd)) (satV (fy3 hd)), rm6 (satV (fy0 hd)) (satV (fy1 hd)) (satV (fy2 hd)) (satV (fy3 hd))] [nv, ev, 0]) (wr IntKind.i64 (0 - divPV (wr IntKind.i64 (0 - mulDivV mm 1073741824 1000)) (rm8 (satV (fy0 hd)) (satV (fy1 hd)) (satV (fy2 hd)) (satV (fy3 hd))) 30)) 30)) > 4096), false), (decide (subV (wr IntKind.i64 (0 - divPV (dotV 30 [s1V 1 1 (-1) (-1) (satV (fy0 hd)) (satV (fy1 hd)) (satV (fy2 hd)) (satV (fy3 hd)), t1V (satV (fy1 hd)) (satV (fy2 hd)) (satV (fy0 hd)) (satV (fy3 hd)), t1V (satV (fy1 hd)) (satV (fy3 hd)) (wr IntKind.i64 (0 - satV (fy0 hd))) (satV (fy2 hd))] [nv, ev, 0]) (mulDivV mm 1073741824 1000) 30)) (wr IntKind.i64 (0 - divPV (dotV 30 [rm0 (satV (fy0 hd)) (satV (fy1 hd)) (satV (fy2 hd)) (satV (fy3 hd)), rm3 (satV (fy0 hd)) (satV (fy1 hd)) (satV (fy2 hd)) (satV (fy3 hd)), rm6 (satV (fy0 hd)) (satV (fy1 hd)) (satV (fy2 hd)) (satV (fy3 hd))] [nv, ev, 0]) (wr IntKind.i64 (0 - divPV (wr IntKind.i64 (0 - mulDivV mm 1073741824 1000)) (rm8 (satV (fy0 hd)) (satV (fy1 hd)) (satV (fy2 hd)) (satV (fy3 hd))) 30)) 30)) > 4096), false), (decide (subV (wr IntKind.i64 (0 - divPV (dotV 30 [s1V 1 1 (-1) (-1) (satV (fy0 hd)) (satV (fy1 hd)) (satV (fy2 hd)) (satV (fy3 hd)), t1V (satV (fy1 hd)) (satV (fy2 hd)) (satV (fy0 hd)) (satV (fy3 hd)), t1V (satV (fy1 hd)) (satV (fy3 hd)) (wr IntKind.i64 (0 - satV (fy0 hd))) (satV (fy2 hd))] [nv, ev, 0]) (mulDivV mm 1073741824 1000) 30)) (wr IntKind.i64 (0 - divPV (dotV 30 [rm0 (satV (fy0 hd)) (satV (fy1 hd)) (satV (fy2 hd)) (satV (fy3 hd)), rm3 (satV (fy0 hd)) (satV (fy1 hd)) (satV (fy2 hd)) (satV (fy3 hd)), rm6 (satV (fy0 hd)) (satV (fy1 hd)) (satV (fy2 hd)) (satV (fy3 hd))] [nv, ev, 0]) (wr IntKind.i64 (0 - divPV (wr IntKind.i64 (0 - mulDivV mm 1073741824 1000)) (rm8 (satV (fy0 hd)) (satV (fy1 hd)) (satV (fy2 hd)) (satV (fy3 hd))) 30)) 30)) > 4096), false), (decide (subV (divPV (dotV 30 [t1V (satV (fy1 hd)) (satV (fy2 hd)) (wr IntKind.i64 (0 - satV (fy0 hd))) (satV (fy3 hd)), s1V 1 (-1) 1 (-1) (satV (fy0 hd)) (satV (fy1 hd)) (satV (fy2 hd)) (satV (fy3 hd)), t1V (satV (fy2 hd)) (satV (fy3 hd)) (satV (fy0 hd)) (satV (fy1 hd))] [nv, ev, 0]) (mulDivV mm 1073741824 1000) 30) (divPV (dotV 30 [rm1 (satV (fy0 hd)) (satV (fy1 hd)) (satV (fy2 hd)) (satV (fy3 hd)), rm4 (satV (fy0 hd)) (satV (fy1 hd)) (satV (fy2 hd)) (satV (fy3 hd)), rm7 (satV (fy0 hd)) (satV (fy1 hd)) (satV (fy2 hd)) (satV (fy3 hd))] [nv, ev, 0]) (wr IntKind.i64 (0 - divPV (wr IntKind.i64 (0 - mulDivV mm 1073741824 1000)) (rm8 (satV (fy0 hd)) (satV (fy1 hd)) (satV (fy2 hd)) (satV (fy3 hd))) 30)) 30) < -4096), false), (decide (subV (divPV (dotV 30 [t1V (satV (fy1 hd)) (satV (fy2 hd)) (wr IntKind.i64 (0 - satV (fy0 hd))) (satV (fy3 hd)), s1V 1 (-1) 1 (-1) (satV (fy0 hd)) (satV (fy1 hd)) (satV (fy2 hd)) (satV (fy3 hd)), t1V (satV (fy2 hd)) (satV (fy3 hd)) (satV (fy0 hd)) (satV (fy1 hd))] [nv, ev, 0]) (mulDivV mm 1073741824 1000) 30) (divPV (dotV 30 [rm1 (satV (fy0 hd)) (satV (fy1 hd)) (satV (fy2 hd)) (satV (fy3 hd)), rm4 (satV (fy0 hd)) (satV (fy1 hd)) (satV (fy2 hd)) (satV (fy3 hd)), rm7 (satV (fy0 hd)) (satV (fy1 hd)) (satV (fy2 hd)) (satV (fy3 hd))] [nv, ev, 0]) (wr IntKind.i64 (0 - divPV (wr IntKind.i64 (0 - mulDivV mm 1073741824 1000)) (rm8 (satV (fy0 hd)) (satV (fy1 hd)) (satV (fy2 hd)) (satV (fy3 hd))) 30)) 30) > 4096), false), (decide (subV (divPV (dotV 30 [t1V (satV (fy1 hd)) (satV (fy2 hd)) (wr IntKind.i64 (0 - satV (fy0 hd))) (satV (fy3 hd)), s1V 1 (-1) 1 (-1) (satV (fy0 hd)) (satV (fy1 hd)) (satV (fy2 hd)) (satV (fy3 hd)), t1V (satV (fy2 hd)) (satV (fy3 hd)) (satV (fy0 hd)) (satV (fy1 hd))] [nv, ev, 0]) (mulDivV mm 1073741824 1000) 30) (divPV (dotV 30 [rm1 (satV (fy0 hd)) (satV (fy1 hd)) (satV (fy2 hd)) (satV (fy3 hd)), rm4 (satV (fy0 hd)) (satV (fy1 hd)) (satV (fy2 hd)) (satV (fy3 hd)), rm7 (satV (fy0 hd)) (satV (fy1 hd)) (satV (fy2 hd)) (satV (fy3 hd))] [nv, ev, 0]) (wr IntKind.i64 (0 - divPV (wr IntKind.i64 (0 - mulDivV mm 1073741824 1000)) (rm8 (satV (fy0 hd)) (satV (fy1 hd)) (satV (fy2 hd)) (satV (fy3 hd))) 30)) 30) > 4096), false), (decide (subV (divPV (dotV 30 [t1V (satV (fy1 hd)) (satV (fy2 hd)) (wr IntKind.i64 (0 - satV (fy0 hd))) (satV (fy3 hd)), s1V 1 (-1) 1 (-1) (satV (fy0 hd)) (satV (fy1 hd)) (satV (fy2 hd)) (satV (fy3 hd)), t1V (satV (fy2 hd)) (satV (fy3 hd)) (satV (fy0 hd)) (satV (fy1 hd))] [nv, ev, 0]) (mulDivV mm 1073741824 1000) 30) (divPV (dotV 30 [rm1 (satV (fy0 hd)) (satV (fy1 hd)) (satV (fy2 hd)) (satV (fy3 hd)), rm4 (satV (fy0 hd)) (satV (fy1 hd)) (satV (fy2 hd)) (satV (fy3 hd)), rm7 (satV (fy0 hd)) (satV (fy1 hd)) (satV (fy2 hd)) (satV (fy3 hd))] [nv, ev, 0]) (wr IntKind.i64 (0 - divPV (wr IntKind.i64 (0 - mulDivV mm 1073741824 1000)) (rm8 (satV (fy0 hd)) (satV (fy1 hd)) (satV (fy2 hd)) (satV (fy3 hd))) 30)) 30) > 4096), false), (decide (subV (divPV (dotV 30 [t1V (satV (fy1 hd)) (satV (fy2 hd)) (wr IntKind.i64 (0 - satV (fy0 hd))) (satV (fy3 hd)), s1V 1 (-1) 1 (-1) (satV (fy0 hd)) (satV (fy1 hd)) (satV (fy2 hd)) (satV (fy3 hd)), t1V (satV (fy2 hd)) (satV (fy3 hd)) (satV (fy0 hd)) (satV (fy1 hd))] [nv, ev, 0]) (mulDivV mm 1073741824 1000) 30) (divPV (dotV 30 [rm1 (satV (fy0 hd)) (satV (fy1 hd)) (satV (fy2 hd)) (satV (fy3 hd)), rm4 (satV (fy0 hd)) (satV (fy1 hd)) (satV (fy2 hd)) (satV (fy3 hd)), rm7 (satV (fy0 hd)) (satV (fy1 hd)) (satV (fy2 hd)) (satV (fy3 hd))] [nv, ev, 0]) (wr IntKind.i64 (0 - divPV (wr IntKind.i64 (0 - mulDivV mm 1073741824 1000)) (rm8 (satV (fy0 hd)) (satV (fy1 hd)) (satV (fy2 hd)) (satV (fy3 hd))) 30)) 30) > 4096), false), (decide (subV (divPV (dotV 30 [t1V (satV (fy1 hd)) (satV (fy2 hd)) (wr IntKind.i64 (0 - satV (fy0 hd))) (satV (fy3 hd)), s1V 1 (-1) 1 (-1) (satV (fy0 hd)) (satV (fy1 hd)) (satV (fy2 hd)) (satV (fy3 hd)), t1V (satV (fy2 hd)) (satV (fy3 hd)) (satV (fy0 hd)) (satV (fy1 hd))] [nv, ev, 0]) (mulDivV mm 1073741824 1000) 30) (divPV (dotV 30 [rm1 (satV (fy0 hd)) (satV (fy1 hd)) (satV (fy2 hd)) (satV (fy3 hd)), rm4 (satV (fy0 hd)) (satV (fy1 hd)) (satV (fy2 hd)) (satV (fy3 hd)), rm7 (satV (fy0 hd)) (satV (fy1 hd)) (satV (fy2 hd)) (satV (fy3 hd))] [nv, ev, 0]) (wr IntKind.i64 (0 - divPV (wr IntKind.i64 (0 - mulDivV mm 1073741824 1000)) (rm8 (satV (fy0 hd)) (satV (fy1 hd)) (satV (fy2 hd)) (satV (fy3 hd))) 30)) 30) > 4096), false), (decide (subV (divPV (dotV 30 [t1V (satV (fy1 hd)) (satV (fy2 hd)) (wr IntKind.i64 (0 - satV (fy0 hd))) (satV (fy3 hd)), s1V 1 (-1) 1 (-1) (satV (fy0 hd)) (satV (fy1 hd)) (satV (fy2 hd)) (satV (fy3 hd)), t1V (satV (fy2 hd)) (satV (fy3 hd)) (satV (fy0 hd)) (satV (fy1 hd))] [nv, ev, 0]) (mulDivV mm 1073741824 1000) 30) (divPV (dotV 30 [rm1 (satV (fy0 hd)) (satV (fy1 hd)) (satV (fy2 hd)) (satV (fy3 hd)), rm4 (satV (fy0 hd)) (satV (fy1 hd)) (satV (fy2 hd)) (satV (fy3 hd)), rm7 (satV (fy0 hd)) (satV (fy1 hd)) (satV (fy2 hd)) (satV (fy3 hd))] [nv, ev, 0]) (wr IntKind.i64 (0 - divPV (wr IntKind.i64 (0 - mulDivV mm 1073741824 1000)) (rm8 (satV (fy0 hd)) (satV (fy1 hd)) (satV (fy2 hd)) (satV (fy3 hd))) 30)) 30) > 4096), false), (decide (subV (divPV (dotV 30 [t1V (satV (fy1 hd)) (satV (fy2 hd)) (wr IntKind.i64 (0 - satV (fy0 hd))) (satV (fy3 hd)), s1V 1 (-1) 1 (-1) (satV (fy0 hd)) (satV (fy1 hd)) (satV (fy2 hd)) (satV (fy3 hd)), t1V (satV (fy2 hd)) (satV (fy3 hd)) (satV (fy0 hd)) (satV (fy1 hd))] [nv, ev, 0]) (mulDivV mm 1073741824 1000) 30) (divPV (dotV 30 [rm1 (satV (fy0 hd)) (satV (fy1 hd)) (satV (fy2 hd)) (satV (fy3 hd)), rm4 (satV (fy0 hd)) (satV (fy1 hd)) (satV (fy2 hd)) (satV (fy3 hd)), rm7 (satV (fy0 hd)) (satV (fy1 hd)) (satV (fy2 hd)) (satV (fy3 hd))] [nv, ev, 0]) (wr IntKind.i64 (0 - divPV (wr IntKind.i64 (0 - mulDivV mm 1073741824 1000)) (rm8 (satV (fy0 hd)) (satV (fy1 hd)) (satV (fy2 hd)) (satV (fy3 hd))) 30)) 30) > 4096), false), (decide (wr IntKind.i64 (0 - divPV (wr IntKind.i64 (0 - mulDivV mm 1073741824 1000)) (rm8 (satV (fy0 hd)) (satV (fy1 hd)) (satV (fy2 hd)) (satV (fy3 hd))) 30) < 536870912), false), (decide (rm8 (satV (fy0 hd)) (satV (fy1 hd)) (satV (fy2 hd)) (satV (fy3 hd)) < 751619277), false), (decide (ev > 21474836480), false), (decide (ev < -21474836480), false), (decide (ev < -21474836480), false), (decide (ev < -21474836480), false), (decide (nv > 21474836480), false), (decide (nv > 21474836480), false), (decide (nv > 21474836480), false), (decide (nv < -21474836480), false), (decide (nv < -21474836480), false), (decide (nv < -21474836480), false), (decide (mm > 100000), false), (decide (mm > 100000), false), (decide (mm > 100000), false), (decide (mm < 1000), false), (decide (mm < 1000), false), (decide (mm < 1000), false)]) := by kernel_rfl
def frFl (h0 h1 h2 h3 : Bool) (s0 s1 s2 s3 H nv ev r0 r1 r2 r3 r4 r5 r6 r7 r8 d b0 b1 : Int) : Bool := (rmF (rmF (false || h0 || h1 || h2 || h3) s0 s1 s2 s3 || divPH (wr IntKind.i64 (0 - H)) r8 30 || h0 || h1 || h2 || h3) s0 s1 s2 s3 || dotH 30 [r0, r3, r6] [nv, ev, 0] || dotH 30 [r1, r4, r7] [nv, ev, 0] || dotH 30 [r2, r5, r8] [nv, ev, 0] || divPH b1 d 30 || subH (divPV b1 H 30) (divPV b1 d 30) || divPH b0 d 30 || subH (wr IntKind.i64 (0 - divPV b0 H 30)) (wr IntKind.i64 (0 - divPV b0 d 30)) || divPH r1 d 30 || divPH r0 d 30 || divPH r4 d 30 || divPH r3 d 30 || divPH r7 d 30 || divPH r6 d 30)
def frD (H r8 : Int) : Int := wr IntKind.i64 (0 - divPV (wr IntKind.i64 (0 - H)) r8 30)
def frY0 (H d b1 : Int) : Int := subV (divPV b1 H 30) (divPV b1 d 30)
def frY1 (H d b0 : Int) : Int := subV (wr IntKind.i64 (0 - divPV b0 H 30)) (wr IntKind.i64 (0 - divPV b0 d 30))
theorem frM1 (hd mm nv ev : Int) : (runF Try.prog S61 Zl 4000 3 [I hd, I mm, I nv, I ev] [] 0 (nn 1 (ff 16 (nn 6 (ff 8 (nn 1 (ff 8 []))))))).map (fun r => (r.1, r.2.2.2)) = some (LV.v (V1.one (At.bool !(frFl (satH (fy0 hd)) (satH (fy1 hd)) (satH (fy2 hd)) (satH (fy3 hd)) (satV (fy0 hd)) (satV (fy1 hd)) (satV (fy2 hd)) (satV (fy3 hd)) (mulDivV mm 1073741824 1000) nv ev (rm0 (satV (fy0 hd)) (satV (fy1 hd)) (satV (fy2 hd)) (satV (fy3 hd))) (rm1 (satV (fy0 hd)) (satV (fy1 hd)) (satV (fy2 hd)) (satV (fy3 hd))) (rm2 (satV (fy0 hd)) (satV (fy1 hd)) (satV (fy2 hd)) (satV (fy3 hd))) (rm3 (satV (fy0 hd)) (satV (fy1 hd)) (satV (fy2 hd)) (satV (fy3 hd))) (rm4 (satV (fy0 hd)) (satV (fy1 hd)) (satV (fy2 hd)) (satV (fy3 hd))) (rm5 (satV (fy0 hd)) (satV (fy1 hd)) (satV (fy2 hd)) (satV (fy3 hd))) (rm6 (satV (fy0 hd)) (satV (fy1 hd)) (satV (fy2 hd)) (satV (fy3 hd))) (rm7 (satV (fy0 hd)) (satV (fy1 hd)) (satV (fy2 hd)) (satV (fy3 hd))) (rm8 (satV (fy0 hd)) (satV (fy1 hd)) (satV (fy2 hd)) (satV (fy3 hd))) (frD (mulDivV mm 1073741824 1000) (rm8 (satV (fy0 hd)) (satV (fy1 hd)) (satV (fy2 hd)) (satV (fy3 hd)))) (dotV 30 [rm0 (satV (fy0 hd)) (satV (fy1 hd)) (satV (fy2 hd)) (satV (fy3 hd)), rm3 (satV (fy0 hd)) (satV (fy1 hd)) (satV (fy2 hd)) (satV (fy3 hd)), rm6 (satV (fy0 hd)) (satV (fy1 hd)) (satV (fy2 hd)) (satV (fy3 hd))] [nv, ev, 0]) (dotV 30 [rm1 (satV (fy0 hd)) (satV (fy1 hd)) (satV (fy2 hd)) (satV (fy3 hd)), rm4 (satV (fy0 hd)) (satV (fy1 hd)) (satV (fy2 hd)) (satV (fy3 hd)), rm7 (satV (fy0 hd)) (satV (fy1 hd)) (satV (fy2 hd)) (satV (fy3 hd))] [nv, ev, 0])))), ra 1 (decide (frY1 (mulDivV mm 1073741824 1000) (frD (mulDivV mm 1073741824 1000) (rm8 (satV (fy0 hd)) (satV (fy1 hd)) (satV (fy2 hd)) (satV (fy3 hd)))) (dotV 30 [rm0 (satV (fy0 hd)) (satV (fy1 hd)) (satV (fy2 hd)) (satV (fy3 hd)), rm3 (satV (fy0 hd)) (satV (fy1 hd)) (satV (fy2 hd)) (satV (fy3 hd)), rm6 (satV (fy0 hd)) (satV (fy1 hd)) (satV (fy2 hd)) (satV (fy3 hd))] [nv, ev, 0]) < -4096), false) (ra 7 (decide (frY1 (mulDivV mm 1073741824 1000) (frD (mulDivV mm 1073741824 1000) (rm8 (satV (fy0 hd)) (satV (fy1 hd)) (satV (fy2 hd)) (satV (fy3 hd)))) (dotV 30 [rm0 (satV (fy0 hd)) (satV (fy1 hd)) (satV (fy2 hd)) (satV (fy3 hd)), rm3 (satV (fy0 hd)) (satV (fy1 hd)) (satV (fy2 hd)) (satV (fy3 hd)), rm6 (satV (fy0 hd)) (satV (fy1 hd)) (satV (fy2 hd)) (satV (fy3 hd))] [nv, ev, 0]) > 4096), false) (ra 1 (decide (frY0 (mulDivV mm 1073741824 1000) (frD (mulDivV mm 1073741824 1000) (rm8 (satV (fy0 hd)) (satV (fy1 hd)) (satV (fy2 hd)) (satV (fy3 hd)))) (dotV 30 [rm1 (satV (fy0 hd)) (satV (fy1 hd)) (satV (fy2 hd)) (satV (fy3 hd)), rm4 (satV (fy0 hd)) (satV (fy1 hd)) (satV (fy2 hd)) (satV (fy3 hd)), rm7 (satV (fy0 hd)) (satV (fy1 hd)) (satV (fy2 hd)) (satV (fy3 hd))] [nv, ev, 0]) < -4096), false) (ra 7 (decide (frY0 (mulDivV mm 1073741824 1000) (frD (mulDivV mm 1073741824 1000) (rm8 (satV (fy0 hd)) (satV (fy1 hd)) (satV (fy2 hd)) (satV (fy3 hd)))) (dotV 30 [rm1 (satV (fy0 hd)) (satV (fy1 hd)) (satV (fy2 hd)) (satV (fy3 hd)), rm4 (satV (fy0 hd)) (satV (fy1 hd)) (satV (fy2 hd)) (satV (fy3 hd)), rm7 (satV (fy0 hd)) (satV (fy1 hd)) (satV (fy2 hd)) (satV (fy3 hd))] [nv, ev, 0]) > 4096), false) (ra 1 (decide ((frD (mulDivV mm 1073741824 1000) (rm8 (satV (fy0 hd)) (satV (fy1 hd)) (satV (fy2 hd)) (satV (fy3 hd)))) < 536870912), false) (ra 1 (decide ((rm8 (satV (fy0 hd)) (satV (fy1 hd)) (satV (fy2 hd)) (satV (fy3 hd))) < 751619277), false) (ra 1 (decide (ev > 21474836480), false) (ra 3 (decide (ev < -21474836480), false) (ra 3 (decide (nv > 21474836480), false) (ra 3 (decide (nv < -21474836480), false) (ra 3 (decide (mm > 100000), false) (ra 3 (decide (mm < 1000), false) [])))))))))))) := frM hd mm nv ev
theorem frE1 (hd mm nv ev : Int) : (runF Try.prog S61 Zl 4000 3 [I hd, I mm, I nv, I ev] [] 0 (nn 1 (tt 3 []))).map (fun r => (r.1, r.2.2.2)) = some (LV.v (V1.one (At.bool true)), ra 3 (decide (mm < 1000), true) []) := by kernel_rfl
theorem frE2 (hd mm nv ev : Int) : (runF Try.prog S61 Zl 4000 3 [I hd, I mm, I nv, I ev] [] 0 (nn 1 (ff 3 (tt 3 [])))).map (fun r => (r.1, r.2.2.2)) = some (LV.v (V1.one (At.bool true)), ra 3 (decide (mm > 100000), true) (ra 3 (decide (mm < 1000), false) [])) := by kernel_rfl
theorem frE3 (hd mm nv ev : Int) : (runF Try.prog S61 Zl 4000 3 [I hd, I mm, I nv, I ev] [] 0 (nn 1 (ff 6 (tt 3 [])))).map (fun r => (r.1, r.2.2.2)) = some (LV.v (V1.one (At.bool true)), ra 3 (decide (nv < -21474836480), true) (ra 3 (decide (mm > 100000), false) (ra 3 (decide (mm < 1000), false) []))) := by kernel_rfl
theorem frE4 (hd mm nv ev : Int) : (runF Try.prog S61 Zl 4000 3 [I hd, I mm, I nv, I ev] [] 0 (nn 1 (ff 9 (tt 3 [])))).map (fun r => (r.1, r.2.2.2)) = some (LV.v (V1.one (At.bool true)), ra 3 (decide (nv > 21474836480), true) (ra 3 (decide (nv < -21474836480), false) (ra 3 (decide (mm > 100000), false) (ra 3 (decide (mm < 1000), false) [])))) := by kernel_rfl
theorem frE5 (hd mm nv ev : Int) : (runF Try.prog S61 Zl 4000 3 [I hd, I mm, I nv, I ev] [] 0 (nn 1 (ff 12 (tt 3 [])))).map (fun r => (r.1, r.2.2.2)) = some (LV.v (V1.one (At.bool true)), ra 3 (decide (ev < -21474836480), true) (ra 3 (decide (nv > 21474836480), false) (ra 3 (decide (nv < -21474836480), false) (ra 3 (decide (mm > 100000), false) (ra 3 (decide (mm < 1000), false) []))))) := by kernel_rfl
theorem frE6 (hd mm nv ev : Int) : (runF Try.prog S61 Zl 4000 3 [I hd, I mm, I nv, I ev] [] 0 (nn 1 (ff 15 (tt 1 [])))).map (fun r => (r.1, r.2.2.2)) = some (LV.v (V1.one (At.bool true)), ra 1 (decide (ev > 21474836480), true) (ra 3 (decide (ev < -21474836480), false) (ra 3 (decide (nv > 21474836480), false) (ra 3 (decide (nv < -21474836480), false) (ra 3 (decide (mm > 100000), false) (ra 3 (decide (mm < 1000), false) [])))))) := by kernel_rfl
theorem fr_near {w u : Int} (hu : 1 ≤ u) : nb (2 * (divV w u * u - w)) u := by
  have odd : ∀ w : Int, divV (-w) u = -divV w u := by
    intro w
    unfold divV
    rw [absV_negate]
    have hu' : decide (u < 0) = false := by simp; omega
    rw [hu']
    by_cases g0 : w = 0
    · subst g0
      have : quoR (absV 0) (absV u) = 0 := by
        rw [show absV 0 = 0 from rfl]
        exact quoR_zero (by unfold absV; split <;> omega)
      rw [this]; rfl
    · by_cases g1 : w < 0
      · have e1 : decide (w < 0) = true := by simpa using g1
        have e2 : decide (-w < 0) = false := by simp; omega
        rw [e1, e2]; unfold sgn; simp
      · have e1 : decide (w < 0) = false := by simp; omega
        have e2 : decide (-w < 0) = true := by simp; omega
        rw [e1, e2]; unfold sgn; simp
  by_cases h : 0 ≤ w
  · rw [div_pos h (by omega)]; exact quo_bd h (by omega)
  · have k := quo_bd (a := -w) (b := u) (by omega) (by omega)
    rw [← div_pos (a := -w) (b := u) (by omega) (by omega), odd, Int.neg_mul] at k
    unfold nb; omega
theorem fr_div {v u : Int} (hv : nb v 1099511627776) (h2 : 536870912 ≤ u) (h3 : u ≤ 1099511627776) : nb (2 * (divPV v u 30 * u - v * 1073741824)) u ∧ nb (divPV v u 30) 4398046511104 ∧ divPH v u 30 = false := by
  have hd := fr_near (w := v * 1073741824) (u := u) (by omega)
  have e : pow2 (Int.toNat 30) = 1073741824 := rfl
  unfold nb at hv
  have hb : -4398046511104 ≤ divV (v * 1073741824) u ∧ divV (v * 1073741824) u ≤ 4398046511104 := by
    unfold nb at hd
    generalize divV (v * 1073741824) u = t at *
    constructor
    · rcases Int.lt_or_le t (-4398046511104) with h | h
      · exfalso
        have : t * u ≤ -4398046511105 * u := Int.mul_le_mul_of_nonneg_right (by omega) (by omega)
        omega
      · exact h
    · rcases Int.lt_or_le 4398046511104 t with h | h
      · exfalso
        have : 4398046511105 * u ≤ t * u := Int.mul_le_mul_of_nonneg_right (by omega) (by omega)
        omega
      · exact h
  have ev : divPV v u 30 = divV (v * 1073741824) u := by
    unfold divPV byV
    rw [if_neg (by decide), if_neg (by decide), e, sat_in (a := v) (by omega) (by omega), sat_in (a := u) (by omega) (by omega), if_neg (by omega), sat_in (by omega) (by omega)]
  refine ⟨by rw [ev]; exact hd, by rw [ev]; exact hb, ?_⟩
  unfold divPH byH
  rw [e, sat_in (a := v) (by omega) (by omega), sat_in (a := u) (by omega) (by omega), satH_in (a := v) (by omega) (by omega), satH_in (a := u) (by omega) (by omega), satH_in (a := divV (v * 1073741824) u) (by omega) (by omega)]
  have : (u == 0) = false := by simp; omega
  rw [this]; rfl
theorem fr_m {a d : Int} (hu : UnitQ a 0 0 d) :
    nb (rm0 a 0 0 d) 1073741829 ∧ nb (rm3 a 0 0 d) 1073741829 ∧ rm1 a 0 0 d = -rm3 a 0 0 d ∧ rm4 a 0 0 d = rm0 a 0 0 d ∧ rm2 a 0 0 d = 0 ∧ rm5 a 0 0 d = 0 ∧ rm6 a 0 0 d = 0 ∧ rm7 a 0 0 d = 0 ∧ 1073741820 ≤ rm8 a 0 0 d ∧ rm8 a 0 0 d ≤ 1073741828 ∧ (∀ h, rmF h a 0 0 d = h) := by
  obtain ⟨e0, e1, e2, e3, e4, e5, e6, e7, e8, ef⟩ := rm_eq hu.ha hu.hb hu.hc hu.hd
  have l8 := lev8 hu
  have h0 := rn30 (mx0 a 0 0 d)
  have h3 := rn30 (mx3 a 0 0 d)
  have r0 : rndV 0 30 = 0 := by kernel_rfl
  have i0 : mx0 a 0 0 d = a * a - d * d := by unfold mx0; omega
  have i3 : mx3 a 0 0 d = 2 * (a * d) := by unfold mx3; omega
  have i4 : mx4 a 0 0 d = a * a - d * d := by unfold mx4; omega
  have i1 : mx1 a 0 0 d = -(2 * (a * d)) := by unfold mx1; omega
  have i2 : mx2 a 0 0 d = 0 := by unfold mx2; simp
  have i5 : mx5 a 0 0 d = 0 := by unfold mx5; simp
  have i6 : mx6 a 0 0 d = 0 := by unfold mx6; simp
  have i7 : mx7 a 0 0 d = 0 := by unfold mx7; simp
  rw [i0] at e0 h0
  rw [i3] at e3 h3
  rw [i1, rnd_odd] at e1
  rw [i4] at e4
  rw [i2, r0] at e2
  rw [i5, r0] at e5
  rw [i6, r0] at e6
  rw [i7, r0] at e7
  rw [← e0] at h0
  rw [← e3] at h3
  have hn := hu.hn
  unfold nearU n4 at hn
  have q1 := sqnn0 (a - d)
  have q2 := sqnn0 (a + d)
  have q3 := sqnn0 a
  have q4 := sqnn0 d
  have j1 : (a - d) * (a - d) = a * a + d * d - 2 * (a * d) := by grind
  have j2 : (a + d) * (a + d) = a * a + d * d + 2 * (a * d) := by grind
  rw [j1] at q1
  rw [j2] at q2
  refine ⟨?_, ?_, by rw [e1, e3], by rw [e4, e0], e2, e5, e6, e7, by omega, by omega, ef⟩
  · clear e0 e1 e2 e3 e4 e5 e6 e7 e8 i0 i1 i2 i3 i4 i5 i6 i7 j1 j2
    generalize rm0 a 0 0 d = m at *
    generalize rm3 a 0 0 d = m3 at *
    generalize a * a = q at *
    generalize d * d = q3' at *
    generalize a * d = q4' at *
    unfold nb at *; omega
  · clear e0 e1 e2 e3 e4 e5 e6 e7 e8 i0 i1 i2 i3 i4 i5 i6 i7 j1 j2
    generalize rm0 a 0 0 d = m at *
    generalize rm3 a 0 0 d = m3 at *
    generalize a * d = q at *
    generalize a * a = q' at *
    generalize d * d = q3' at *
    unfold nb at *; omega
/-- Divided by two numbers that are nearly the same. -/
theorem fr_two {b H d q1 q2 : Int} (hb : nb b 96636764160) (hH : 1073741824 ≤ H) (hd : 536870912 ≤ d) (hdH : nb (1073741824 * (d - H)) (1073741824 + 4 * d)) (h1 : nb (2 * (q1 * H - b * 1073741824)) H) (h2 : nb (2 * (q2 * d - b * 1073741824)) d) : nb (q1 - q2) 600 := by
  refine nb.cancel (m := H * d) (Int.mul_pos (by omega) (by omega)) ?_
  have i : 2 * (H * d * (q1 - q2)) = 2 * (b * (1073741824 * (d - H))) + d * (2 * (q1 * H - b * 1073741824)) - H * (2 * (q2 * d - b * 1073741824)) := by grind
  have p1 := hb.mul hdH
  have p2 := h1.lmul (m := d) (by omega)
  have p3 := h2.lmul (m := H) (by omega)
  have u1 : 1073741824 * 536870912 ≤ H * d := Int.mul_le_mul hH hd (by omega) (by omega)
  have u2 : 1073741824 * d ≤ H * d := Int.mul_le_mul_of_nonneg_right hH (by omega)
  have e : d * H = H * d := Int.mul_comm _ _
  rw [e] at p2
  have e2 : 96636764160 * (1073741824 + 4 * d) = 103762935414616227840 + 360 * (1073741824 * d) := by grind
  rw [e2] at p1
  generalize H * d * (q1 - q2) = z at *
  generalize b * (1073741824 * (d - H)) = z1 at *
  generalize d * (2 * (q1 * H - b * 1073741824)) = z2 at *
  generalize H * (2 * (q2 * d - b * 1073741824)) = z3 at *
  have e3 : H * d * 600 = 600 * (H * d) := Int.mul_comm _ _
  rw [e3]
  generalize H * d = P at *
  clear h1 h2 hdH
  unfold nb at *; omega
theorem fr_dot {x0 x1 nv ev : Int} (h0 : nb x0 1073741829) (h1 : nb x1 1073741829) (hn : nb nv 21474836480) (he : nb ev 21474836480) : nb (dotV 30 [x0, x1, 0] [nv, ev, 0]) 96636764160 ∧ dotH 30 [x0, x1, 0] [nv, ev, 0] = false := by
  have z : nb (0 : Int) 4294967296 := by unfold nb; omega
  have z' : nb (0 : Int) 4398046511104 := by unfold nb; omega
  obtain ⟨d1, d2⟩ := dot3 (h0.le (by omega)) (h1.le (by omega)) z (hn.le (by omega)) (he.le (by omega)) z'
  refine ⟨?_, d2⟩
  have p0 := h0.mul hn
  have p1 := h1.mul he
  generalize x0 * nv = a at *
  generalize x1 * ev = b at *
  unfold nb at *; omega
theorem fr_all {f0 f3 H nv ev : Int} (hu : UnitQ f0 0 0 f3) (hH : 1073741824 ≤ H) (hH1 : H ≤ 107374182400) (hn : nb nv 21474836480) (he : nb ev 21474836480) :
    ¬ rm8 f0 0 0 f3 < 751619277 ∧ ¬ frD H (rm8 f0 0 0 f3) < 536870912 ∧ nb (frY0 H (frD H (rm8 f0 0 0 f3)) (dotV 30 [rm1 f0 0 0 f3, rm4 f0 0 0 f3, rm7 f0 0 0 f3] [nv, ev, 0])) 4096 ∧ nb (frY1 H (frD H (rm8 f0 0 0 f3)) (dotV 30 [rm0 f0 0 0 f3, rm3 f0 0 0 f3, rm6 f0 0 0 f3] [nv, ev, 0])) 4096 ∧
    frFl false false false false f0 0 0 f3 H nv ev (rm0 f0 0 0 f3) (rm1 f0 0 0 f3) (rm2 f0 0 0 f3) (rm3 f0 0 0 f3) (rm4 f0 0 0 f3) (rm5 f0 0 0 f3) (rm6 f0 0 0 f3) (rm7 f0 0 0 f3) (rm8 f0 0 0 f3) (frD H (rm8 f0 0 0 f3)) (dotV 30 [rm0 f0 0 0 f3, rm3 f0 0 0 f3, rm6 f0 0 0 f3] [nv, ev, 0]) (dotV 30 [rm1 f0 0 0 f3, rm4 f0 0 0 f3, rm7 f0 0 0 f3] [nv, ev, 0]) = false := by
  obtain ⟨hc, hs, e1, e4, e2, e5, e6, e7, k0, k1, ef⟩ := fr_m hu
  rw [e1, e4, e2, e5, e6, e7]
  unfold frFl
  simp only [ef]
  generalize rm0 f0 0 0 f3 = c at *
  generalize rm3 f0 0 0 f3 = s at *
  generalize rm8 f0 0 0 f3 = K at *
  obtain ⟨v1, v2, v3⟩ := fr_div (v := -H) (u := K) (by unfold nb; omega) (by omega) (by omega)
  have wH : wr IntKind.i64 (0 - H) = -H := wneg_mid (by omega)
  have hd : frD H K = -divPV (-H) K 30 := by unfold frD; rw [wH]; exact wneg_mid (by unfold nb at v2; omega)
  rw [hd]
  generalize hq : -divPV (-H) K 30 = d at *
  have v1' : nb (2 * (d * K - H * 1073741824)) K := by
    have : divPV (-H) K 30 = -d := by omega
    rw [this] at v1
    have i : 2 * (-d * K - -H * 1073741824) = -(2 * (d * K - H * 1073741824)) := by grind
    rw [i] at v1
    unfold nb at *; omega
  have hd0 : 536870912 ≤ d := by
    rcases Int.lt_or_le d 536870912 with g | g
    · exfalso
      have : d * K ≤ 536870912 * K := Int.mul_le_mul_of_nonneg_right (by omega) (by omega)
      unfold nb at v1'
      omega
    · exact g
  have hd1 : d ≤ 1099511627776 := by
    rcases Int.lt_or_le 1099511627776 d with g | g
    · exfalso
      have : 1099511627776 * K ≤ d * K := Int.mul_le_mul_of_nonneg_right (by omega) (by omega)
      unfold nb at v1'
      omega
    · exact g
  have hdH : nb (1073741824 * (d - H)) (1073741824 + 4 * d) := by
    have i : 2 * (1073741824 * (d - H)) = 2 * (d * K - H * 1073741824) - 2 * ((K - 1073741824) * d) := by grind
    have p := (show nb (K - 1073741824) 4 by unfold nb; omega).mul (show nb d d by unfold nb; omega)
    generalize (K - 1073741824) * d = z at *
    generalize d * K - H * 1073741824 = z1 at *
    generalize 1073741824 * (d - H) = z2 at *
    unfold nb at *; omega
  obtain ⟨b1, f1⟩ := fr_dot hs.neg hc hn he
  obtain ⟨b0, f0'⟩ := fr_dot hc hs hn he
  have z : nb (0 : Int) 4294967296 := by unfold nb; omega
  have z' : nb (0 : Int) 4398046511104 := by unfold nb; omega
  obtain ⟨-, f2⟩ := dot3 (x0 := 0) (x1 := 0) (x2 := K) z z (by unfold nb; omega) (hn.le (by omega)) (he.le (by omega)) z'
  generalize dotV 30 [-s, c, 0] [nv, ev, 0] = B1 at *
  generalize dotV 30 [c, s, 0] [nv, ev, 0] = B0 at *
  obtain ⟨x1, x2, -⟩ := fr_div (v := B1) (u := H) (b1.le (by omega)) (by omega) (by omega)
  obtain ⟨y1, y2, y3⟩ := fr_div (v := B1) (u := d) (b1.le (by omega)) hd0 hd1
  obtain ⟨t1, t2, -⟩ := fr_div (v := B0) (u := H) (b0.le (by omega)) (by omega) (by omega)
  obtain ⟨w1, w2, w3⟩ := fr_div (v := B0) (u := d) (b0.le (by omega)) hd0 hd1
  have g1 := fr_two b1 hH hd0 hdH x1 y1
  have g2 := fr_two b0 hH hd0 hdH t1 w1
  obtain ⟨-, -, a1⟩ := fr_div (v := -s) (u := d) (hs.neg.le (by omega)) hd0 hd1
  obtain ⟨-, -, a2⟩ := fr_div (v := c) (u := d) (hc.le (by omega)) hd0 hd1
  obtain ⟨-, -, a3⟩ := fr_div (v := s) (u := d) (hs.le (by omega)) hd0 hd1
  obtain ⟨-, -, a4⟩ := fr_div (v := 0) (u := d) (by unfold nb; omega) hd0 hd1
  have n1 : wr IntKind.i64 (0 - divPV B0 H 30) = -divPV B0 H 30 := wneg_mid (by unfold nb at t2; omega)
  have n2 : wr IntKind.i64 (0 - divPV B0 d 30) = -divPV B0 d 30 := wneg_mid (by unfold nb at w2; omega)
  obtain ⟨s1, s2⟩ := sub_mid (a := divPV B1 H 30) (b := divPV B1 d 30) (by unfold nb at x2; omega) (by unfold nb at y2; omega)
  obtain ⟨s3, s4⟩ := sub_mid (a := -divPV B0 H 30) (b := -divPV B0 d 30) (by unfold nb at t2; omega) (by unfold nb at w2; omega)
  refine ⟨by omega, by omega, ?_, ?_, ?_⟩
  · unfold frY0; rw [s1]; unfold nb at *; omega
  · unfold frY1; rw [n1, n2, s3]; unfold nb at *; omega
  · rw [wH, v3, f0', f1, f2, y3, s2, w3, n1, n2, s4, a1, a2, a3, a4]
    rfl
theorem fr_H {mm : Int} (h0 : 1000 ≤ mm) (h1 : mm ≤ 100000) : 1073741824 ≤ mulDivV mm 1073741824 1000 ∧ mulDivV mm 1073741824 1000 ≤ 107374182400 := by
  have d := fr_near (w := mm * 1073741824) (u := 1000) (by omega)
  have b : 1073741824 ≤ divV (mm * 1073741824) 1000 ∧ divV (mm * 1073741824) 1000 ≤ 107374182400 := by
    unfold nb at d
    generalize divV (mm * 1073741824) 1000 = t at *
    omega
  unfold mulDivV byV
  rw [sat_in (a := mm) (by omega) (by omega), sat_in (a := 1073741824) (by omega) (by omega), sat_in (a := 1000) (by omega) (by omega), if_neg (by omega), sat_in (a := divV (mm * 1073741824) 1000) (by omega) (by omega)]
  exact b
theorem fr_fin {hd mm nv ev : Int} (h0 : 1000 ≤ mm) (h1 : mm ≤ 100000) (hn : nb nv 21474836480) (he : nb ev 21474836480) :
    ¬ (rm8 (satV (fy0 hd)) (satV (fy1 hd)) (satV (fy2 hd)) (satV (fy3 hd))) < 751619277 ∧ ¬ (frD (mulDivV mm 1073741824 1000) (rm8 (satV (fy0 hd)) (satV (fy1 hd)) (satV (fy2 hd)) (satV (fy3 hd)))) < 536870912 ∧ nb (frY0 (mulDivV mm 1073741824 1000) (frD (mulDivV mm 1073741824 1000) (rm8 (satV (fy0 hd)) (satV (fy1 hd)) (satV (fy2 hd)) (satV (fy3 hd)))) (dotV 30 [rm1 (satV (fy0 hd)) (satV (fy1 hd)) (satV (fy2 hd)) (satV (fy3 hd)), rm4 (satV (fy0 hd)) (satV (fy1 hd)) (satV (fy2 hd)) (satV (fy3 hd)), rm7 (satV (fy0 hd)) (satV (fy1 hd)) (satV (fy2 hd)) (satV (fy3 hd))] [nv, ev, 0])) 4096 ∧ nb (frY1 (mulDivV mm 1073741824 1000) (frD (mulDivV mm 1073741824 1000) (rm8 (satV (fy0 hd)) (satV (fy1 hd)) (satV (fy2 hd)) (satV (fy3 hd)))) (dotV 30 [rm0 (satV (fy0 hd)) (satV (fy1 hd)) (satV (fy2 hd)) (satV (fy3 hd)), rm3 (satV (fy0 hd)) (satV (fy1 hd)) (satV (fy2 hd)) (satV (fy3 hd)), rm6 (satV (fy0 hd)) (satV (fy1 hd)) (satV (fy2 hd)) (satV (fy3 hd))] [nv, ev, 0])) 4096 ∧ (frFl (satH (fy0 hd)) (satH (fy1 hd)) (satH (fy2 hd)) (satH (fy3 hd)) (satV (fy0 hd)) (satV (fy1 hd)) (satV (fy2 hd)) (satV (fy3 hd)) (mulDivV mm 1073741824 1000) nv ev (rm0 (satV (fy0 hd)) (satV (fy1 hd)) (satV (fy2 hd)) (satV (fy3 hd))) (rm1 (satV (fy0 hd)) (satV (fy1 hd)) (satV (fy2 hd)) (satV (fy3 hd))) (rm2 (satV (fy0 hd)) (satV (fy1 hd)) (satV (fy2 hd)) (satV (fy3 hd))) (rm3 (satV (fy0 hd)) (satV (fy1 hd)) (satV (fy2 hd)) (satV (fy3 hd))) (rm4 (satV (fy0 hd)) (satV (fy1 hd)) (satV (fy2 hd)) (satV (fy3 hd))) (rm5 (satV (fy0 hd)) (satV (fy1 hd)) (satV (fy2 hd)) (satV (fy3 hd))) (rm6 (satV (fy0 hd)) (satV (fy1 hd)) (satV (fy2 hd)) (satV (fy3 hd))) (rm7 (satV (fy0 hd)) (satV (fy1 hd)) (satV (fy2 hd)) (satV (fy3 hd))) (rm8 (satV (fy0 hd)) (satV (fy1 hd)) (satV (fy2 hd)) (satV (fy3 hd))) (frD (mulDivV mm 1073741824 1000) (rm8 (satV (fy0 hd)) (satV (fy1 hd)) (satV (fy2 hd)) (satV (fy3 hd)))) (dotV 30 [rm0 (satV (fy0 hd)) (satV (fy1 hd)) (satV (fy2 hd)) (satV (fy3 hd)), rm3 (satV (fy0 hd)) (satV (fy1 hd)) (satV (fy2 hd)) (satV (fy3 hd)), rm6 (satV (fy0 hd)) (satV (fy1 hd)) (satV (fy2 hd)) (satV (fy3 hd))] [nv, ev, 0]) (dotV 30 [rm1 (satV (fy0 hd)) (satV (fy1 hd)) (satV (fy2 hd)) (satV (fy3 hd)), rm4 (satV (fy0 hd)) (satV (fy1 hd)) (satV (fy2 hd)) (satV (fy3 hd)), rm7 (satV (fy0 hd)) (satV (fy1 hd)) (satV (fy2 hd)) (satV (fy3 hd))] [nv, ev, 0])) = false := by
  obtain ⟨hu, f1, f2⟩ := fy_ok hd
  have z : satV 0 = 0 := by rw [sat_in (by omega) (by omega)]
  have zh : satH 0 = false := satH_in (by omega) (by omega)
  obtain ⟨l0, l1⟩ := fr_H h0 h1
  have i0 := inS_bd hu.ha
  have i3 := inS_bd hu.hd
  rw [f1, f2, z, zh, sat_in i0.1 i0.2, sat_in i3.1 i3.2, satH_in i0.1 i0.2, satH_in i3.1 i3.2]
  exact fr_all hu l0 l1 hn he
theorem lawFlowRates (hd mm nv ev : Int) (w : World) :
    Calls Try.prog 3 ([I hd, I mm, I nv, I ev].map (LV.den E0)).toArray w fun e w' => e = .returned (.bool true) ∧ Below w.heap.size w w' := by
  have T : ∀ {c : Prop} [Decidable c] {l : List (Bool × Bool)} {n : Nat}, c → (∀ d ∈ l, d.1 = d.2) → ∀ d ∈ ra n (decide c, true) l, d.1 = d.2 := fun h hl => ra_ok (decide_eq_true h) hl _
  have F : ∀ {c : Prop} [Decidable c] {l : List (Bool × Bool)} {n : Nat}, ¬ c → (∀ d ∈ l, d.1 = d.2) → ∀ d ∈ ra n (decide c, false) l, d.1 = d.2 := fun h hl => ra_ok (decide_eq_false h) hl _
  have Z : ∀ d ∈ ([] : List (Bool × Bool)), d.1 = d.2 := by simp
  by_cases x0 : mm < 1000
  · exact law_true sound61 (frE1 hd mm nv ev) rfl (T x0 Z) rfl w
  by_cases x1 : mm > 100000
  · exact law_true sound61 (frE2 hd mm nv ev) rfl (T x1 (F x0 Z)) rfl w
  by_cases x2 : nv < -21474836480
  · exact law_true sound61 (frE3 hd mm nv ev) rfl (T x2 (F x1 (F x0 Z))) rfl w
  by_cases x3 : nv > 21474836480
  · exact law_true sound61 (frE4 hd mm nv ev) rfl (T x3 (F x2 (F x1 (F x0 Z)))) rfl w
  by_cases x4 : ev < -21474836480
  · exact law_true sound61 (frE5 hd mm nv ev) rfl (T x4 (F x3 (F x2 (F x1 (F x0 Z))))) rfl w
  by_cases x5 : ev > 21474836480
  · exact law_true sound61 (frE6 hd mm nv ev) rfl (T x5 (F x4 (F x3 (F x2 (F x1 (F x0 Z)))))) rfl w
  obtain ⟨k8, kd, y0, y1, fl⟩ := fr_fin (hd := hd) (mm := mm) (nv := nv) (ev := ev) (by omega) (by omega) (by unfold nb; omega) (by unfold nb; omega)
  have r := frM1 hd mm nv ev
  rw [fl] at r
  have a1 : ¬ frY1 (mulDivV mm 1073741824 1000) (frD (mulDivV mm 1073741824 1000) (rm8 (satV (fy0 hd)) (satV (fy1 hd)) (satV (fy2 hd)) (satV (fy3 hd)))) (dotV 30 [rm0 (satV (fy0 hd)) (satV (fy1 hd)) (satV (fy2 hd)) (satV (fy3 hd)), rm3 (satV (fy0 hd)) (satV (fy1 hd)) (satV (fy2 hd)) (satV (fy3 hd)), rm6 (satV (fy0 hd)) (satV (fy1 hd)) (satV (fy2 hd)) (satV (fy3 hd))] [nv, ev, 0]) < -4096 := by unfold nb at y1; omega
  have a2 : ¬ frY1 (mulDivV mm 1073741824 1000) (frD (mulDivV mm 1073741824 1000) (rm8 (satV (fy0 hd)) (satV (fy1 hd)) (satV (fy2 hd)) (satV (fy3 hd)))) (dotV 30 [rm0 (satV (fy0 hd)) (satV (fy1 hd)) (satV (fy2 hd)) (satV (fy3 hd)), rm3 (satV (fy0 hd)) (satV (fy1 hd)) (satV (fy2 hd)) (satV (fy3 hd)), rm6 (satV (fy0 hd)) (satV (fy1 hd)) (satV (fy2 hd)) (satV (fy3 hd))] [nv, ev, 0]) > 4096 := by unfold nb at y1; omega
  have a3 : ¬ frY0 (mulDivV mm 1073741824 1000) (frD (mulDivV mm 1073741824 1000) (rm8 (satV (fy0 hd)) (satV (fy1 hd)) (satV (fy2 hd)) (satV (fy3 hd)))) (dotV 30 [rm1 (satV (fy0 hd)) (satV (fy1 hd)) (satV (fy2 hd)) (satV (fy3 hd)), rm4 (satV (fy0 hd)) (satV (fy1 hd)) (satV (fy2 hd)) (satV (fy3 hd)), rm7 (satV (fy0 hd)) (satV (fy1 hd)) (satV (fy2 hd)) (satV (fy3 hd))] [nv, ev, 0]) < -4096 := by unfold nb at y0; omega
  have a4 : ¬ frY0 (mulDivV mm 1073741824 1000) (frD (mulDivV mm 1073741824 1000) (rm8 (satV (fy0 hd)) (satV (fy1 hd)) (satV (fy2 hd)) (satV (fy3 hd)))) (dotV 30 [rm1 (satV (fy0 hd)) (satV (fy1 hd)) (satV (fy2 hd)) (satV (fy3 hd)), rm4 (satV (fy0 hd)) (satV (fy1 hd)) (satV (fy2 hd)) (satV (fy3 hd)), rm7 (satV (fy0 hd)) (satV (fy1 hd)) (satV (fy2 hd)) (satV (fy3 hd))] [nv, ev, 0]) > 4096 := by unfold nb at y0; omega
  exact law_true sound61 r rfl (F a1 (F a2 (F a3 (F a4 (F kd (F k8 (F x5 (F x4 (F x3 (F x2 (F x1 (F x0 Z)))))))))))) rfl w

end Go.Proofs.Ytdkmiliehlhmbaa
