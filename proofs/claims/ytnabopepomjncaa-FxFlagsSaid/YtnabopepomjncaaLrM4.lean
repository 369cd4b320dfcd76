/- Joined texts. What each part proves stands ahead of it; no condition. -/
import Derived.Test.YtnabopepomjncaaLrM3
import Derived.WalkKit
import Derived.ProofKit
import Derived.OpenShut
import Derived.WideShapes
import Derived.Test.YtnabopepomjncaaLrM2
import Derived.ChangeArms
import Derived.RowKit

/- fx.Add: its walk, round by round. -/
namespace Go.Proofs.Ytnabopepomjncaa
open Go.Lr
set_option linter.unusedVariables false
set_option linter.unusedSimpArgs false

theorem fa (dead : Nat → Value) (hb : Bool) (o n c : Nat) (ty : TypeId) (fr : Nat × Nat) (es : Nat) (l : List At) : projS [0,1,4,5] [0,1,2] (execL Try.prog S15 Zl 400 (spineL 2 (bodyF Try.prog 16)) (Kst.st ⟨argsL 0 [A0, .v (.one (.slx 1 o n c))], [(0, flag 26 hb), (1, ⟨ty, fr, es, l⟩)], 2⟩ 39 dead [])) = some (Ex.normal, [LV.v (V1.one (At.ptr 0 0)), LV.v (V1.one (At.slx 1 o n c)), LV.v (V1.one (At.int IntKind.i64 0)), LV.v (V1.one (At.ptr 2 0))], [some { ty := 26, fr := (0, 0), es := 0, cells := [At.bool hb] }, some { ty := ty, fr := fr, es := es, cells := l }, some { ty := 95, fr := (0, 0), es := 0, cells := [At.int IntKind.i64 0, At.int IntKind.u64 0] }], []) := by kernel_rfl
theorem fb (dead : Nat → Value) (hb : Bool) (o n c : Nat) (ty : TypeId) (fr : Nat × Nat) (es : Nat) (l : List At) (x y : Int) : projS [0,5,10,11,12] [0,1,2] (exec Try.prog S15 Zl 400 (.code (c1 (c1 (c2 (c2 (bodyF Try.prog 16)))))) (Kst.st ⟨[(0, A0), (1, .v (.one (.slx 1 o n c))), (4, .v (.one (.int .i64 0))), (5, .v (.one (.ptr 2 0)))], [(0, flag 26 hb), (1, ⟨ty, fr, es, l⟩), (2, ⟨95, (0,0), 0, [.int .i64 x, .int .u64 y]⟩)], 3⟩ 39 dead [])) = some (Ex.normal, [LV.v (V1.one (At.ptr 0 0)), LV.v (V1.one (At.ptr 2 0)), LV.v (V1.one (At.slx 1 o n c)), LV.v (V1.one (At.int IntKind.i64 ↑n)), LV.v (V1.one (At.int IntKind.i64 0))], [some { ty := 26, fr := (0, 0), es := 0, cells := [At.bool hb] }, some { ty := ty, fr := fr, es := es, cells := l }, some { ty := 95, fr := (0, 0), es := 0, cells := [At.int IntKind.i64 x, At.int IntKind.u64 y] }], []) := by kernel_rfl
theorem fc (dead : Nat → Value) (hb : Bool) (o n c : Nat) (ty : TypeId) (fr : Nat × Nat) (es : Nat) (l : List At) (x y i : Int) : projS [0,5,10,11,12] [0,1,2] (exec Try.prog S15 Zl 400 (.code (c1 (c1 (c2 (c1 (c2 (c2 (bodyF Try.prog 16)))))))) (Kst.st ⟨[(0, A0), (5, .v (.one (.ptr 2 0))), (10, .v (.one (.slx 1 o n c))), (11, .v (.one (.int .i64 n))), (12, .v (.one (.int .i64 i)))], [(0, flag 26 hb), (1, ⟨ty, fr, es, l⟩), (2, ⟨95, (0,0), 0, [.int .i64 x, .int .u64 y]⟩)], 3⟩ 39 dead [some true])) = some (Ex.normal, [LV.v (V1.one (At.ptr 0 0)), LV.v (V1.one (At.ptr 2 0)), LV.v (V1.one (At.slx 1 o n c)), LV.v (V1.one (At.int IntKind.i64 ↑n)), LV.v (V1.one (At.int IntKind.i64 (wr IntKind.i64 (i + 1))))], [some { ty := 26, fr := (0, 0), es := 0, cells := [At.bool (hb || satH (intAt l (o + i.toNat * 1)))] }, some { ty := ty, fr := fr, es := es, cells := l }, some { ty := 95, fr := (0, 0), es := 0, cells := [At.int IntKind.i64 (wHi (wVal x y + wVal (wHi (satV (intAt l (o + i.toNat * 1)))) (wLo (satV (intAt l (o + i.toNat * 1)))))), At.int IntKind.u64 (wLo (wVal x y + wVal (wHi (satV (intAt l (o + i.toNat * 1)))) (wLo (satV (intAt l (o + i.toNat * 1))))))] }], [(isI x, true), (isU y, true), (isI (wHi (satV (intAt l (o + i.toNat * 1)))), true), (isU (wLo (satV (intAt l (o + i.toNat * 1)))), true), (isW (wVal x y + wVal (wHi (satV (intAt l (o + i.toNat * 1)))) (wLo (satV (intAt l (o + i.toNat * 1))))), true), (isI (satV (intAt l (o + i.toNat * 1))), true), (isIntAt IntKind.i64 l (o + i.toNat * 1), true), (decide (0 ≤ i) && decide (i < ↑n), true), (decide (i < ↑n), true)]) := by kernel_rfl
theorem fd (dead : Nat → Value) (hb : Bool) (o n c : Nat) (ty : TypeId) (fr : Nat × Nat) (es : Nat) (l : List At) (x y i : Int) : projS [0,5] [0,1,2] (exec Try.prog S15 Zl 400 (.code (c1 (c1 (c2 (c1 (c2 (c2 (bodyF Try.prog 16)))))))) (Kst.st ⟨[(0, A0), (5, .v (.one (.ptr 2 0))), (10, .v (.one (.slx 1 o n c))), (11, .v (.one (.int .i64 n))), (12, .v (.one (.int .i64 i)))], [(0, flag 26 hb), (1, ⟨ty, fr, es, l⟩), (2, ⟨95, (0,0), 0, [.int .i64 x, .int .u64 y]⟩)], 3⟩ 39 dead [some false])) = some (Ex.exit 0, [LV.v (V1.one (At.ptr 0 0)), LV.v (V1.one (At.ptr 2 0))], [some { ty := 26, fr := (0, 0), es := 0, cells := [At.bool hb] }, some { ty := ty, fr := fr, es := es, cells := l }, some { ty := 95, fr := (0, 0), es := 0, cells := [At.int IntKind.i64 x, At.int IntKind.u64 y] }], [(decide (i < ↑n), false)]) := by kernel_rfl
theorem fe (dead : Nat → Value) (hb : Bool) (ty : TypeId) (fr : Nat × Nat) (es : Nat) (l : List At) (x y : Int) : projS [4] [0,1] (exec Try.prog S15 Zl 400 (.code (c2 (c2 (c2 (bodyF Try.prog 16))))) (Kst.st ⟨[(0, A0), (5, .v (.one (.ptr 2 0)))], [(0, flag 26 hb), (1, ⟨ty, fr, es, l⟩), (2, ⟨95, (0,0), 0, [.int .i64 x, .int .u64 y]⟩)], 3⟩ 39 dead [])) = some (Ex.ret, [LV.v (V1.one (At.int IntKind.i64 (endV (if isI (rndV (wVal x y) (Int.toNat 0)) = true then rndV (wVal x y) (Int.toNat 0) else 0) (isI (rndV (wVal x y) (Int.toNat 0))) (decide (x < 0)))))], [some { ty := 26, fr := (0, 0), es := 0, cells := [At.bool (hb || endH (if isI (rndV (wVal x y) (Int.toNat 0)) = true then rndV (wVal x y) (Int.toNat 0) else 0) (isI (rndV (wVal x y) (Int.toNat 0))))] }, some { ty := ty, fr := fr, es := es, cells := l }], [(isI x, true), (isU y, true), (decide (0 ≤ 0) && decide (0 ≤ 126), true)]) := by kernel_rfl

theorem memOK3 {nb : Nat} {b0 b1 b2 : Blk} (hnb : 3 ≤ nb) (h0 : okL (below nb) b0.cells = true) (h1 : okL (below nb) b1.cells = true) (h2 : okL (below nb) b2.cells = true) : memOKb nb [(0, b0), (1, b1), (2, b2)] = true := by
  have e0 : Nat.blt 0 nb = true := by rw [nblt]; simp; omega
  have e1 : Nat.blt 1 nb = true := by rw [nblt]; simp; omega
  have e2 : Nat.blt 2 nb = true := by rw [nblt]; simp; omega
  simp only [memOKb, e0, e1, e2, h0, h1, h2]
  rfl
theorem memOK2 {nb : Nat} {b0 b1 : Blk} (hnb : 2 ≤ nb) (h0 : okL (below nb) b0.cells = true) (h1 : okL (below nb) b1.cells = true) : memOKb nb [(0, b0), (1, b1)] = true := by
  have e0 : Nat.blt 0 nb = true := by rw [nblt]; simp; omega
  have e1 : Nat.blt 1 nb = true := by rw [nblt]; simp; omega
  simp only [memOKb, e0, e1, h0, h1]
  rfl
theorem kst_ok {A : Kst} (h1 : liveOKb A.nb A.live = true) (h2 : memOKb A.nb A.mem = true) : KstOK A := by
  obtain ⟨a, b, c⟩ := liveOKb_ok h1
  obtain ⟨d, e⟩ := memOKb_ok h2
  exact ⟨a, b, c, d, e⟩

/-- The clamped numbers' sum; is one out of bounds? -/
def sumS : List Int → Int
  | [] => 0
  | a :: l => satV a + sumS l
def anyH : List Int → Bool
  | [] => false
  | a :: l => satH a || anyH l
theorem sumS_app (l m : List Int) : sumS (l ++ m) = sumS l + sumS m := by
  induction l with
  | nil => simp [sumS]
  | cons a l ih => simp only [List.cons_append, sumS, ih]; omega
theorem anyH_app (l m : List Int) : anyH (l ++ m) = (anyH l || anyH m) := by
  induction l with
  | nil => simp [anyH]
  | cons a l ih => simp only [List.cons_append, anyH, ih, Bool.or_assoc]
theorem sumS_bd (l : List Int) : -(l.length * 1152921504606846976 : Int) ≤ sumS l ∧ sumS l ≤ l.length * 1152921504606846976 := by
  induction l with
  | nil => simp [sumS]
  | cons a l ih =>
    have := sat_bd a
    simp only [sumS, List.length_cons]
    push_cast
    omega
theorem take_snoc {α : Type} (l : List α) (i : Nat) (h : i < l.length) : l.take (i + 1) = l.take i ++ [l[i]] := by rw [List.take_succ_eq_append_getElem h]

def wB (v : Int) : Blk := ⟨95, (0, 0), 0, [.int .i64 (wHi v), .int .u64 (wLo v)]⟩
noncomputable def addBd : Code := c1 (c2 (c2 (bodyF Try.prog 16)))
def adA (k : Blk) (o n c : Nat) (h : Bool) (v : Int) (i : Int) : Kst := ⟨[(0, A0), (5, P2), (10, .v (.one (.slx 1 o n c))), (11, .v (.one (.int .i64 n))), (12, .v (.one (.int .i64 i)))], [(0, flag 26 h), (1, k), (2, wB v)], 3⟩
def adB (k : Blk) (h : Bool) (v : Int) : Kst := ⟨[(0, A0), (5, P2)], [(0, flag 26 h), (1, k), (2, wB v)], 3⟩

theorem addStep (k : Blk) (o n c : Nat) (xs : List Int) (hk : SlAt 1 k o n xs) (hn : n < 1152921504606846976) (hb : Bool) (i : Nat) (hi : i < n) :
    To Try.prog 39 (c1 (c1 (c2 addBd))) (adA k o n c (hb || anyH (xs.take i)) (sumS (xs.take i)) i) .normal (adA k o n c (hb || anyH (xs.take (i + 1))) (sumS (xs.take (i + 1))) ((i : Int) + 1)) := by
  obtain ⟨hlen, hat, hok⟩ := hk
  have hi' : i < xs.length := by omega
  have hx := intAt_of (hat i hi')
  have hs := take_snoc xs i hi'
  have b0 := sumS_bd (xs.take i)
  rw [List.length_take] at b0
  have b1 := sat_bd xs[i]
  have hm : ((min i xs.length : Nat) : Int) = i := by omega
  rw [hm] at b0
  have e1 : sumS (xs.take (i + 1)) = sumS (xs.take i) + satV xs[i] := by rw [hs, sumS_app]; simp [sumS]
  have e2 : (hb || anyH (xs.take (i + 1))) = ((hb || anyH (xs.take i)) || satH xs[i]) := by rw [hs, anyH_app]; simp [anyH, Bool.or_assoc]
  have e3 : ((i : Int)).toNat * 1 = i := by simp
  have e4 : wr .i64 ((i : Int) + 1) = (i : Int) + 1 := w64_in (by omega) (by omega)
  obtain ⟨ty, fr, es, l⟩ := k
  rw [e1, e2]
  generalize sumS (xs.take i) = S at *
  have hi2 := wHi_inI S (by omega) (by omega)
  have hl2 := wLo_in S
  have hi3 := wHi_inI (satV xs[i]) (by omega) (by omega)
  have hl3 := wLo_in (satV xs[i])
  refine To.run (z := Zl) sound15 (slots := [0, 5, 10, 11, 12]) (blks := [0, 1, 2]) (vs := [A0, P2, .v (.one (.slx 1 o n c)), .v (.one (.int .i64 n)), .v (.one (.int .i64 ((i : Int) + 1)))])
    (bs := [flag 26 ((hb || anyH (xs.take i)) || satH xs[i]), ⟨ty, fr, es, l⟩, wB (S + satV xs[i])]) (nbB := 3)
    (fun dead => fc dead (hb || anyH (xs.take i)) o n c ty fr es l (wHi S) (wLo S) i) rfl (by rw [e4]; rfl) (by rw [e3, hx.1]; simp only [wVal_mk]; rfl) ?_ (kst_ok rfl (memOK3 (Nat.le_refl _) rfl (okL_mono noP_below hok) rfl)) (Nat.le_refl _)
  rw [e3, hx.1, hx.2]
  simp only [wVal_mk, all_tt, isI_iff, isU_iff, isW_iff, Bool.and_eq_true, decide_eq_true_eq]
  repeat' apply And.intro
  all_goals first | exact ae_nil | exact True.intro | omega

theorem addEnd (k : Blk) (o n c : Nat) (hok : okL noP k.cells = true) (h : Bool) (v : Int) : To Try.prog 39 (c1 (c1 (c2 addBd))) (adA k o n c h v n) (.exit 0) (adB k h v) := by
  obtain ⟨ty, fr, es, l⟩ := k
  refine To.exec (z := Zl) sound15 (slots := [0, 5]) (blks := [0, 1, 2]) (vs := [A0, P2]) (bs := [flag 26 h, ⟨ty, fr, es, l⟩, wB v]) (nbB := 3) (fun dead => fd dead h o n c ty fr es l (wHi v) (wLo v) n) ?_ (kst_ok rfl (memOK3 (Nat.le_refl _) rfl (okL_mono noP_below hok) rfl)) (Nat.le_refl _)
  simp

theorem addRd (k : Blk) (o n c : Nat) (xs : List Int) (hk : SlAt 1 k o n xs) (hn : n < 1152921504606846976) (hb : Bool) : ∀ (m i : Nat), i + m = n →
    Rd Try.prog 39 (c1 (c1 (c2 addBd))) (m + 1) (adA k o n c (hb || anyH (xs.take i)) (sumS (xs.take i)) i) (.exit 0) (adB k (hb || anyH xs) (sumS xs))
  | 0, i, h => by
    have hi : i = n := by omega
    have hl : xs.length = n := by have := hk.1; omega
    subst hi
    rw [← hl, List.take_length, hl]
    exact Rd.last (by simp) (addEnd k o i c hk.2.2 _ _)
  | m + 1, i, h => by
    have hs := addStep k o n c xs hk hn hb i (by omega)
    refine Rd.next hs ?_
    exact addRd k o n c xs hk hn hb m (i + 1) (by omega)

/-- The sum, clamped; the flag. -/
def faddV (xs : List Int) : Int := satV (sumS xs)
def faddH (xs : List Int) : Bool := anyH xs || satH (sumS xs)
def faddS : List AV → Bool → Option (LV × Bool × List (Bool × Bool))
  | [.ints xs], hb => some (I (faddV xs), hb || faddH xs, [(decide (xs.length < 1152921504606846976), true)])
  | _, _ => none

theorem fnil (hb : Bool) : (runF Try.prog S15 Zl 2000 16 [A0, .v (.one .nilsl)] [(0, flag 26 hb)] 1 []).map (fun r => (r.1, getM r.2.1 0, r.2.2.2)) = some (I 0, some (flag 26 (hb || false)), [(true, true), (true, true), (true, true)]) := by kernel_rfl

theorem rnd0 (v : Int) : rndV v (Int.toNat 0) = v := by
  have h : rndV v 0 = sgn (decide (v < 0)) ((absV v + 0) / 1) := rfl
  show rndV v 0 = v
  rw [h, Int.add_zero, Int.ediv_one, sgn_abs]

theorem sumFadd : SumOK Try.prog 16 (acSum 26 1 faddS) := by
  refine acSum1_ok (own_of sound15 Try.func16 (by kernel_rfl)) (fun avs hb r h => ?_) fun pre xs hb v h' cs hF hc hp hv => ?_
  · unfold faddS at h
    split at h
    · exact ⟨[], _, rfl⟩
    · cases h
  · have hpre : pre = [] := by
      cases pre with
      | nil => rfl
      | cons p pre =>
        simp only [List.map_cons, List.cons_append] at hF
        unfold faddS at hF
        split at hF
        · rename_i he; simp at he
        · cases hF
    subst hpre
    have hF' : some (I (faddV xs), hb || faddH xs, [(decide (xs.length < 1152921504606846976), true)]) = some (v, h', cs) := hF
    cases hF'
    simp only [all_tt, decide_eq_true_eq] at hc
    obtain ⟨hn, -⟩ := hc
    refine ⟨fun k o n c hk _ E w hrel => ?_, fun hx E w hrel => ?_⟩
    · have hlen : xs.length = n := by have := hk.1; omega
      rw [hlen] at hn
      have hok := hk.2.2
      have hR := addRd k o n c xs hk hn hb n 0 (by omega)
      have b0 := sumS_bd xs
      rw [hlen] at b0
      have hi2 := wHi_inI (sumS xs) (by omega) (by omega)
      have hl2 := wLo_in (sumS xs)
      have hend : endV (if isI (sumS xs) = true then sumS xs else 0) (isI (sumS xs)) (decide (wHi (sumS xs) < 0)) = faddV xs := by
        have := end_rnd (sumS xs) 0 (decide (wHi (sumS xs) < 0)) (by rw [wVal_neg hl2.1 hl2.2, wVal_mk])
        have e := rnd0 (sumS xs)
        rw [show Int.toNat 0 = 0 from rfl] at e
        rw [e] at this
        exact this
      obtain ⟨ty, fr, es, l⟩ := k
      refine lcl_of_To (c := bodyF Try.prog 16) (e := .ret) (nb := 2) (B := ⟨[(4, .v (.one (.int .i64 (faddV xs))))], [(0, flag 26 (hb || faddH xs)), (1, ⟨ty, fr, es, l⟩)], 3⟩) Try.func16 (by kernel_rfl) (Nat.le_of_ble_eq_true (by kernel_rfl)) (Nat.le_of_ble_eq_true (by kernel_rfl))
        (fun u hu => ?_) (memOK2 (Nat.le_refl _) rfl (okL_mono noP_below hok)) ?_ (.inr rfl) (fun dead => by kernel_rfl) rfl (fun i b hib => ?_) E w hrel
      · simp only [List.nil_append, List.mem_cons, List.not_mem_nil, or_false] at hu
        rcases hu with rfl | rfl <;> rfl
      · refine To.spineR (z := Zl) sound15 (k := 2) (slots := [0, 1, 4, 5]) (blks := [0, 1, 2]) (vs := [A0, .v (.one (.slx 1 o n c)), .v (.one (.int .i64 0)), P2]) (bs := [flag 26 hb, ⟨ty, fr, es, l⟩, wB 0]) (nbB := 3) (by kernel_rfl) (fun dead => fa dead hb o n c ty fr es l) rfl rfl rfl (by simp) (kst_ok rfl (memOK3 (Nat.le_refl _) rfl (okL_mono noP_below hok) rfl)) (Nat.le_succ 2) ?_
        refine To.seq (by kernel_rfl) (To.seq (by kernel_rfl) (To.exec (z := Zl) sound15 (slots := [0, 5, 10, 11, 12]) (blks := [0, 1, 2]) (vs := [A0, P2, .v (.one (.slx 1 o n c)), .v (.one (.int .i64 n)), .v (.one (.int .i64 0))]) (bs := [flag 26 hb, ⟨ty, fr, es, l⟩, wB 0]) (nbB := 3) (fun dead => fb dead hb o n c ty fr es l 0 0) (by simp) (kst_ok rfl (memOK3 (Nat.le_refl _) rfl (okL_mono noP_below hok) rfl)) (Nat.le_refl _))
          (To.block (id := 0) (by kernel_rfl) (To.loop (m := n + 1) (by kernel_rfl) ?_) (.inl rfl))) (C := _) (B := adB ⟨ty, fr, es, l⟩ (hb || anyH xs) (sumS xs)) ?_
        · have h0 : adA ⟨ty, fr, es, l⟩ o n c (hb || anyH (xs.take 0)) (sumS (xs.take 0)) ((0 : Nat) : Int) = ⟨[0, 5, 10, 11, 12].zip [A0, P2, .v (.one (.slx 1 o n c)), .v (.one (.int .i64 n)), .v (.one (.int .i64 0))], [0, 1, 2].zip [flag 26 hb, ⟨ty, fr, es, l⟩, wB 0], 3⟩ := by
            unfold adA
            simp only [List.take_zero, anyH, Bool.or_false, sumS]
            rfl
          rw [← h0]
          exact hR
        · refine To.run (z := Zl) sound15 (slots := [4]) (blks := [0, 1]) (vs := [.v (.one (.int .i64 (faddV xs)))]) (bs := [flag 26 (hb || faddH xs), ⟨ty, fr, es, l⟩]) (nbB := 3) (fun dead => fe dead (hb || anyH xs) ty fr es l (wHi (sumS xs)) (wLo (sumS xs))) rfl ?_ ?_ ?_ (kst_ok rfl (memOK2 (Nat.le_succ 2) rfl (okL_mono noP_below hok))) (Nat.le_refl _)
          · rw [wVal_mk, rnd0, hend]
          · rw [wVal_mk, rnd0, endH_of, Bool.or_assoc]; rfl
          · simp only [all_tt, isI_iff, isU_iff]
            exact ⟨hi2, hl2, rfl, ae_nil⟩
      · rcases get2 hib with ⟨rfl, rfl⟩ | ⟨rfl, rfl⟩
        · exact ⟨rfl, by decide, rfl⟩
        · exact ⟨rfl, by decide, okL_mono noP_below hok⟩
    · subst hx
      have hrun := fnil hb
      cases hq : runF Try.prog S15 Zl 2000 16 [A0, .v (.one .nilsl)] [(0, flag 26 hb)] 1 [] with
      | none => rw [hq] at hrun; cases hrun
      | some q =>
        obtain ⟨v', m2, nb', cs'⟩ := q
        rw [hq] at hrun
        simp only [Option.map_some, Option.some.injEq, Prod.mk.injEq] at hrun
        obtain ⟨rfl, hm2, rfl⟩ := hrun
        exact lcl_of_run sound15 hq (m' := [(0, flag 26 (hb || faddH []))]) (fun i c hic => by
            obtain ⟨rfl, rfl⟩ := get1 hic
            exact ⟨hm2, Nat.zero_lt_one, rfl⟩) (by simp) rfl (fun a ha => by
            simp only [List.mem_cons, List.not_mem_nil, or_false] at ha
            rcases ha with rfl | rfl <;> rfl) rfl E w hrel

def S16 : FuncId → Option SumK := more S15 16 (acSum 26 1 faddS)
theorem sound16 : Sound Try.prog S16 := sound15.more sumFadd
end Go.Proofs.Ytnabopepomjncaa

/- root: end, Recip, by every path of their runs (printed), and what they come to. -/
namespace Go.Proofs.Ytnabopepomjncaa
open Go.Lr
set_option linter.unusedVariables false
set_option linter.unusedSimpArgs false

theorem xrendR1 (x y : Int) (hb : Bool) : (runF Try.prog S16 Zl 2000 71 [A0, .v (.agg [.int .i64 x, .int .u64 y])] [(0, flag 26 hb)] 1 [some true]).map acc3 = some (LV.v (V1.one (At.int IntKind.i64 (satV 1152921504606846977))), some { ty := 26, fr := (0, 0), es := 0, cells := [At.bool (hb || satH 1152921504606846977)] }, [(!isI (rootW (wVal x y)), true), (decide (x < 0), false), (isI x, true), (isU y, true)]) := by kernel_rfl
theorem xrendR2 (x y : Int) (hb : Bool) : (runF Try.prog S16 Zl 2000 71 [A0, .v (.agg [.int .i64 x, .int .u64 y])] [(0, flag 26 hb)] 1 [some false]).map acc3 = some (LV.v (V1.one (At.int IntKind.i64 (satV (if isI (rootW (wVal x y)) = true then rootW (wVal x y) else 0)))), some { ty := 26, fr := (0, 0), es := 0, cells := [At.bool (hb || satH (if isI (rootW (wVal x y)) = true then rootW (wVal x y) else 0))] }, [(!isI (rootW (wVal x y)), false), (decide (x < 0), false), (isI x, true), (isU y, true)]) := by kernel_rfl
def xrendT (x y : Int) (hb : Bool) : Option (LV × Bool × List (Bool × Bool)) := 
  bif (!isI (rootW (wVal x y))) then some (LV.v (V1.one (At.int IntKind.i64 (satV 1152921504606846977))), (hb || satH 1152921504606846977), [(decide (x < 0), false), (isI x, true), (isU y, true)])
  else some (LV.v (V1.one (At.int IntKind.i64 (satV (if isI (rootW (wVal x y)) = true then rootW (wVal x y) else 0)))), (hb || satH (if isI (rootW (wVal x y)) = true then rootW (wVal x y) else 0)), [(decide (x < 0), false), (isI x, true), (isU y, true)])
def xrendF : List LV → Bool → Option (LV × Bool × List (Bool × Bool))
  | [.v (.agg [.int .i64 x, .int .u64 y])], hb => xrendT x y hb
  | _, _ => none
theorem sumxrend : SumOK Try.prog 71 (accSum 26 xrendF) := by
  refine accSum_run (z := Zl) sound16 (own_of sound16 Try.func71 (by kernel_rfl)) fun args hb v h' cs hF hc => ?_
  unfold xrendF at hF
  split at hF
  · rename_i x y
    unfold xrendT at hF
    rcases bool_cases (!isI (rootW (wVal x y))) with h0 | h0
    · rw [cond_t h0] at hF
      cases hF
      exact ⟨rfl, 2000, [some true], _, xrendR1 x y hb, ae_cons (h0) (ae_cons (hd_of (hc)) (ae_cons (hd_of (tl_of (hc))) (ae_cons (hd_of (tl_of (tl_of (hc)))) (ae_nil))))⟩
    · rw [cond_f h0] at hF
      cases hF
      exact ⟨rfl, 2000, [some false], _, xrendR2 x y hb, ae_cons (h0) (ae_cons (hd_of (hc)) (ae_cons (hd_of (tl_of (hc))) (ae_cons (hd_of (tl_of (tl_of (hc)))) (ae_nil))))⟩
  · cases hF

/-- A root, clamped. -/
def endRS : List LV → Bool → Option (LV × Bool × List (Bool × Bool))
  | [.v (.agg [.int .i64 x, .int .u64 y])], hb => some (I (satV (rootW (wVal x y))), hb || satH (rootW (wVal x y)), [(decide (x < 0), false), (isI x, true), (isU y, true)])
  | _, _ => none
theorem sumRend : SumOK Try.prog 71 (accSum 26 endRS) := by
  refine sumxrend.acc_re fun args hb v h' cs hF hc => ?_
  unfold endRS at hF
  split at hF
  · rename_i x y
    cases hF
    refine ⟨[(decide (x < 0), false), (isI x, true), (isU y, true)], ?_, hc⟩
    show xrendT x y hb = _
    simp only [all_tt, all_ff, isI_iff, isU_iff, decide_eq_false_iff_not] at hc
    obtain ⟨hx, ⟨hx0, hx1⟩, ⟨hy0, hy1⟩, -⟩ := hc
    have hN0 : 0 ≤ wVal x y := by unfold wVal; omega
    have hN1 : wVal x y < 340282366920938463463374607431768211456 := by unfold wVal; omega
    have hr := (rootW_spec hN0 hN1).1
    unfold xrendT
    generalize rootW (wVal x y) = r at *
    by_cases hi : isI r = true
    · rw [cond_f (by rw [hi]; rfl), if_pos hi]; rfl
    · have hi' : isI r = false := by simpa using hi
      rw [cond_t (by rw [hi']; rfl)]
      have hbig : ¬ (-9223372036854775808 ≤ r ∧ r < 9223372036854775808) := fun hh => hi (isI_iff.2 hh)
      rw [sat_hi (a := r) (by omega), satH_out (a := r) (by omega), sat_hi (a := 1152921504606846977) (by omega), satH_out (a := 1152921504606846977) (by omega)]
      rfl
  · cases hF
def S17 : FuncId → Option SumK := more S16 71 (accSum 26 endRS)
theorem sound17 : Sound Try.prog S17 := sound16.more sumRend
end Go.Proofs.Ytnabopepomjncaa

/- root: Sqrt, Hypot: their walks, and what they come to. -/
namespace Go.Proofs.Ytnabopepomjncaa
open Go.Lr
set_option linter.unusedVariables false
set_option linter.unusedSimpArgs false

theorem xsqrtR1 (a : Int) (hb : Bool) : (runF Try.prog S17 Zl 2000 69 [A0, .v (.one (.int .i64 a))] [(0, flag 26 hb)] 1 [some true]).map acc3 = some (LV.v (V1.one (At.int IntKind.i64 0)), some { ty := 26, fr := (0, 0), es := 0, cells := [At.bool true] }, [(decide (satV a < 0), true)]) := by kernel_rfl
theorem xsqrtR2 (a : Int) (hb : Bool) : (runF Try.prog S17 Zl 2000 69 [A0, .v (.one (.int .i64 a))] [(0, flag 26 hb)] 1 [some false]).map acc3 = some (LV.v (V1.one (At.int IntKind.i64 (satV (rootW (wVal (wHi (satV a * pow2 (Int.toNat 30))) (wLo (satV a * pow2 (Int.toNat 30)))))))), some { ty := 26, fr := (0, 0), es := 0, cells := [At.bool (hb || satH a || satH (rootW (wVal (wHi (satV a * pow2 (Int.toNat 30))) (wLo (satV a * pow2 (Int.toNat 30))))))] }, [(decide (wHi (satV a * pow2 (Int.toNat 30)) < 0), false), (isI (wHi (satV a * pow2 (Int.toNat 30))), true), (isU (wLo (satV a * pow2 (Int.toNat 30))), true), (isI (satV a), true), (decide (0 ≤ 30) && decide (30 ≤ 127), true), (decide (absV (satV a) * pow2 (Int.toNat 30) < 170141183460469231731687303715884105728), true), (decide (satV a < 0), false)]) := by kernel_rfl
def xsqrtT (a : Int) (hb : Bool) : Option (LV × Bool × List (Bool × Bool)) := 
  bif (decide (satV a < 0)) then some (LV.v (V1.one (At.int IntKind.i64 0)), (true), [])
  else some (LV.v (V1.one (At.int IntKind.i64 (satV (rootW (wVal (wHi (satV a * pow2 (Int.toNat 30))) (wLo (satV a * pow2 (Int.toNat 30)))))))), (hb || satH a || satH (rootW (wVal (wHi (satV a * pow2 (Int.toNat 30))) (wLo (satV a * pow2 (Int.toNat 30)))))), [(decide (wHi (satV a * pow2 (Int.toNat 30)) < 0), false), (isI (wHi (satV a * pow2 (Int.toNat 30))), true), (isU (wLo (satV a * pow2 (Int.toNat 30))), true), (isI (satV a), true), (decide (0 ≤ 30) && decide (30 ≤ 127), true), (decide (absV (satV a) * pow2 (Int.toNat 30) < 170141183460469231731687303715884105728), true)])
def xsqrtF : List LV → Bool → Option (LV × Bool × List (Bool × Bool))
  | [.v (.one (.int .i64 a))], hb => xsqrtT a hb
  | _, _ => none
theorem sumxsqrt : SumOK Try.prog 69 (accSum 26 xsqrtF) := by
  refine accSum_run (z := Zl) sound17 (own_of sound17 Try.func69 (by kernel_rfl)) fun args hb v h' cs hF hc => ?_
  unfold xsqrtF at hF
  split at hF
  · rename_i a
    unfold xsqrtT at hF
    rcases bool_cases (decide (satV a < 0)) with h0 | h0
    · rw [cond_t h0] at hF
      cases hF
      exact ⟨rfl, 2000, [some true], _, xsqrtR1 a hb, ae_cons (h0) (ae_nil)⟩
    · rw [cond_f h0] at hF
      cases hF
      exact ⟨rfl, 2000, [some false], _, xsqrtR2 a hb, ae_cons (hd_of (hc)) (ae_cons (hd_of (tl_of (hc))) (ae_cons (hd_of (tl_of (tl_of (hc)))) (ae_cons (hd_of (tl_of (tl_of (tl_of (hc))))) (ae_cons (hd_of (tl_of (tl_of (tl_of (tl_of (hc)))))) (ae_cons (hd_of (tl_of (tl_of (tl_of (tl_of (tl_of (hc))))))) (ae_cons (h0) (ae_nil)))))))⟩
  · cases hF

theorem hb (dead : Nat → Value) (hb : Bool) (o n c : Nat) (ty : TypeId) (fr : Nat × Nat) (es : Nat) (l : List At) (x y : Int) : projS [0,5,12,13,14] [0,1,2] (exec Try.prog S17 Zl 400 (.code (c1 (c1 (c2 (c2 (bodyF Try.prog 33)))))) (Kst.st ⟨[(0, A0), (1, .v (.one (.slx 1 o n c))), (4, .v (.one (.int .i64 0))), (5, P2)], [(0, flag 26 hb), (1, ⟨ty, fr, es, l⟩), (2, ⟨95, (0,0), 0, [.int .i64 x, .int .u64 y]⟩)], 3⟩ 34 dead [])) = some (Ex.normal, [LV.v (V1.one (At.ptr 0 0)), LV.v (V1.one (At.ptr 2 0)), LV.v (V1.one (At.slx 1 (if c = ((Int.ofNat 0)).toNat then o else o + ((Int.ofNat 0)).toNat * 1) ((if (64 : Int) < (n : Int) then 64 else (n : Int)).toNat - ((Int.ofNat 0)).toNat) (c - ((Int.ofNat 0)).toNat))), LV.v (V1.one (At.int IntKind.i64 ↑((if (64 : Int) < (n : Int) then 64 else (n : Int)).toNat - ((Int.ofNat 0)).toNat))), LV.v (V1.one (At.int IntKind.i64 0))], [some { ty := 26, fr := (0, 0), es := 0, cells := [At.bool hb] }, some { ty := ty, fr := fr, es := es, cells := l }, some { ty := 95, fr := (0, 0), es := 0, cells := [At.int IntKind.i64 x, At.int IntKind.u64 y] }], [(decide (0 ≤ (Int.ofNat 0)) && (decide ((Int.ofNat 0) ≤ if 64 < (n : Int) then 64 else (n : Int)) && decide ((if (64 : Int) < (n : Int) then 64 else (n : Int)) ≤ (c : Int))), true)]) := by kernel_rfl
theorem hc (dead : Nat → Value) (hb : Bool) (o n c : Nat) (ty : TypeId) (fr : Nat × Nat) (es : Nat) (l : List At) (x y i : Int) : projS [0,5,12,13,14] [0,1,2] (exec Try.prog S17 Zl 400 (.code (c1 (c1 (c2 (c1 (c2 (c2 (bodyF Try.prog 33)))))))) (Kst.st ⟨[(0, A0), (5, P2), (12, .v (.one (.slx 1 o n c))), (13, .v (.one (.int .i64 n))), (14, .v (.one (.int .i64 i)))], [(0, flag 26 hb), (1, ⟨ty, fr, es, l⟩), (2, ⟨95, (0,0), 0, [.int .i64 x, .int .u64 y]⟩)], 3⟩ 34 dead [some true])) = some (Ex.normal, [LV.v (V1.one (At.ptr 0 0)), LV.v (V1.one (At.ptr 2 0)), LV.v (V1.one (At.slx 1 o n c)), LV.v (V1.one (At.int IntKind.i64 (n : Int))), LV.v (V1.one (At.int IntKind.i64 (wr IntKind.i64 (i + 1))))], [some { ty := 26, fr := (0, 0), es := 0, cells := [At.bool (hb || satH (intAt l (o + i.toNat * 1)))] }, some { ty := ty, fr := fr, es := es, cells := l }, some { ty := 95, fr := (0, 0), es := 0, cells := [At.int IntKind.i64 (wHi (wVal x y + wVal (wHi (satV (intAt l (o + i.toNat * 1)) * satV (intAt l (o + i.toNat * 1)))) (wLo (satV (intAt l (o + i.toNat * 1)) * satV (intAt l (o + i.toNat * 1)))))), At.int IntKind.u64 (wLo (wVal x y + wVal (wHi (satV (intAt l (o + i.toNat * 1)) * satV (intAt l (o + i.toNat * 1)))) (wLo (satV (intAt l (o + i.toNat * 1)) * satV (intAt l (o + i.toNat * 1))))))] }], [(isI x, true), (isU y, true), (isI (wHi (satV (intAt l (o + i.toNat * 1)) * satV (intAt l (o + i.toNat * 1)))), true), (isU (wLo (satV (intAt l (o + i.toNat * 1)) * satV (intAt l (o + i.toNat * 1)))), true), (isW (wVal x y + wVal (wHi (satV (intAt l (o + i.toNat * 1)) * satV (intAt l (o + i.toNat * 1)))) (wLo (satV (intAt l (o + i.toNat * 1)) * satV (intAt l (o + i.toNat * 1))))), true), (isI (satV (intAt l (o + i.toNat * 1))), true), (isI (satV (intAt l (o + i.toNat * 1))), true), (isIntAt IntKind.i64 l (o + i.toNat * 1), true), (decide (0 ≤ i) && decide (i < (n : Int)), true), (decide (i < (n : Int)), true)]) := by kernel_rfl
theorem hd (dead : Nat → Value) (hb : Bool) (o n c : Nat) (ty : TypeId) (fr : Nat × Nat) (es : Nat) (l : List At) (x y i : Int) : projS [0,5] [0,1,2] (exec Try.prog S17 Zl 400 (.code (c1 (c1 (c2 (c1 (c2 (c2 (bodyF Try.prog 33)))))))) (Kst.st ⟨[(0, A0), (5, P2), (12, .v (.one (.slx 1 o n c))), (13, .v (.one (.int .i64 n))), (14, .v (.one (.int .i64 i)))], [(0, flag 26 hb), (1, ⟨ty, fr, es, l⟩), (2, ⟨95, (0,0), 0, [.int .i64 x, .int .u64 y]⟩)], 3⟩ 34 dead [some false])) = some (Ex.exit 0, [LV.v (V1.one (At.ptr 0 0)), LV.v (V1.one (At.ptr 2 0))], [some { ty := 26, fr := (0, 0), es := 0, cells := [At.bool hb] }, some { ty := ty, fr := fr, es := es, cells := l }, some { ty := 95, fr := (0, 0), es := 0, cells := [At.int IntKind.i64 x, At.int IntKind.u64 y] }], [(decide (i < (n : Int)), false)]) := by kernel_rfl
theorem he (dead : Nat → Value) (hb : Bool) (ty : TypeId) (fr : Nat × Nat) (es : Nat) (l : List At) (x y : Int) : projS [4] [0,1] (exec Try.prog S17 Zl 400 (.code (c2 (c2 (c2 (bodyF Try.prog 33))))) (Kst.st ⟨[(0, A0), (5, P2)], [(0, flag 26 hb), (1, ⟨ty, fr, es, l⟩), (2, ⟨95, (0,0), 0, [.int .i64 x, .int .u64 y]⟩)], 3⟩ 34 dead [])) = some (Ex.ret, [LV.v (V1.one (At.int IntKind.i64 (satV (rootW (wVal x y)))))], [some { ty := 26, fr := (0, 0), es := 0, cells := [At.bool (hb || satH (rootW (wVal x y)))] }, some { ty := ty, fr := fr, es := es, cells := l }], [(decide (x < 0), false), (isI x, true), (isU y, true)]) := by kernel_rfl
theorem ha (dead : Nat → Value) (hb : Bool) (o n c : Nat) (ty : TypeId) (fr : Nat × Nat) (es : Nat) (l : List At) : projS [0,1,4,5] [0,1,2] (execL Try.prog S17 Zl 400 (spineL 2 (bodyF Try.prog 33)) (Kst.st ⟨argsL 0 [A0, .v (.one (.slx 1 o n c))], [(0, flag 26 hb), (1, ⟨ty, fr, es, l⟩)], 2⟩ 34 dead [])) = some (Ex.normal, [LV.v (V1.one (At.ptr 0 0)), LV.v (V1.one (At.slx 1 o n c)), LV.v (V1.one (At.int IntKind.i64 0)), LV.v (V1.one (At.ptr 2 0))], [some { ty := 26, fr := (0, 0), es := 0, cells := [At.bool hb] }, some { ty := ty, fr := fr, es := es, cells := l }, some { ty := 95, fr := (0, 0), es := 0, cells := [At.int IntKind.i64 0, At.int IntKind.u64 0] }], []) := by kernel_rfl

def sqrtV (a : Int) : Int := if satV a < 0 then 0 else satV (rootW (satV a * 1073741824))
def sqrtH (a : Int) : Bool := satH a || (decide (satV a < 0) || satH (rootW (satV a * 1073741824)))
def fsqrtS : List LV → Bool → Option (LV × Bool × List (Bool × Bool))
  | [.v (.one (.int .i64 a))], hb => some (I (sqrtV a), hb || sqrtH a, [])
  | _, _ => none
theorem sumSqrt : SumOK Try.prog 69 (accSum 26 fsqrtS) := by
  refine sumxsqrt.acc_re fun args hb v h' cs hF hc => ?_
  unfold fsqrtS at hF
  split at hF
  · rename_i a
    cases hF
    show ∃ cs', xsqrtT a hb = _ ∧ _
    unfold xsqrtT sqrtV sqrtH
    have b := sat_bd a
    have e1 : pow2 (Int.toNat 30) = 1073741824 := rfl
    rw [e1]
    by_cases h1 : satV a < 0
    · rw [cond_t (decide_eq_true h1), if_pos h1, decide_eq_true h1]
      exact ⟨[], by simp [I], ae_nil⟩
    · rw [cond_f (decide_eq_false h1), if_neg h1, decide_eq_false h1]
      rw [wVal_mk]
      refine ⟨_, rfl.trans (by simp only [I, Bool.or_assoc, Bool.false_or]; rfl), ?_⟩
      have h2 := wHi_inI (satV a * 1073741824) (by omega) (by omega)
      have h3 : absV (satV a) = satV a := absV_pos (by omega)
      have h4 : 0 ≤ wHi (satV a * 1073741824) := by unfold wHi; omega
      rw [h3, isI_sat, isU_lo]
      simp only [all_tt, all_ff, isI_iff, Bool.and_eq_true, decide_eq_true_eq, decide_eq_false_iff_not]
      exact ⟨by omega, h2, True.intro, True.intro, ⟨by omega, by omega⟩, by omega, ae_nil⟩
  · cases hF

/-- The clamped numbers' squares' sum. -/
def sqS : List Int → Int
  | [] => 0
  | a :: l => satV a * satV a + sqS l
theorem sqS_app (l m : List Int) : sqS (l ++ m) = sqS l + sqS m := by
  induction l with
  | nil => simp [sqS]
  | cons a l ih => simp only [List.cons_append, sqS, ih]; omega
theorem sq_bd (a : Int) : 0 ≤ satV a * satV a ∧ satV a * satV a ≤ 1329227995784915872903807060280344576 := by
  have h := satsat a a
  refine ⟨?_, h.2⟩
  by_cases h0 : 0 ≤ satV a
  · exact Int.mul_nonneg h0 h0
  · exact Int.mul_nonneg_of_nonpos_of_nonpos (by omega) (by omega)
theorem sqS_bd (l : List Int) : 0 ≤ sqS l ∧ sqS l ≤ l.length * 1329227995784915872903807060280344576 := by
  induction l with
  | nil => simp [sqS]
  | cons a l ih =>
    have := sq_bd a
    simp only [sqS, List.length_cons]
    push_cast
    omega

noncomputable def hyBd : Code := c1 (c2 (c2 (bodyF Try.prog 33)))
def hyA (k : Blk) (o n c : Nat) (h : Bool) (v : Int) (i : Int) : Kst := ⟨[(0, A0), (5, P2), (12, .v (.one (.slx 1 o n c))), (13, .v (.one (.int .i64 n))), (14, .v (.one (.int .i64 i)))], [(0, flag 26 h), (1, k), (2, wB v)], 3⟩
def hyB (k : Blk) (h : Bool) (v : Int) : Kst := ⟨[(0, A0), (5, P2)], [(0, flag 26 h), (1, k), (2, wB v)], 3⟩

theorem hyStep (k : Blk) (o n c : Nat) (xs : List Int) (hlen : xs.length = n) (hat : IntsAt k.cells o xs) (hok : okL noP k.cells = true) (hn : n ≤ 64) (hb : Bool) (i : Nat) (hi : i < n) :
    To Try.prog 34 (c1 (c1 (c2 hyBd))) (hyA k o n c (hb || anyH (xs.take i)) (sqS (xs.take i)) i) .normal (hyA k o n c (hb || anyH (xs.take (i + 1))) (sqS (xs.take (i + 1))) ((i : Int) + 1)) := by
  have hi' : i < xs.length := by omega
  have hx := intAt_of (hat i hi')
  have hs := take_snoc xs i hi'
  have b0 := sqS_bd (xs.take i)
  rw [List.length_take] at b0
  have b1 := sq_bd xs[i]
  have hm : ((min i xs.length : Nat) : Int) = i := by omega
  rw [hm] at b0
  have e1 : sqS (xs.take (i + 1)) = sqS (xs.take i) + satV xs[i] * satV xs[i] := by rw [hs, sqS_app]; simp [sqS]
  have e2 : (hb || anyH (xs.take (i + 1))) = ((hb || anyH (xs.take i)) || satH xs[i]) := by rw [hs, anyH_app]; simp [anyH, Bool.or_assoc]
  have e3 : ((i : Int)).toNat * 1 = i := by simp
  have e4 : wr .i64 ((i : Int) + 1) = (i : Int) + 1 := w64_in (by omega) (by omega)
  have hI := isI_sat xs[i]
  obtain ⟨ty, fr, es, l⟩ := k
  rw [e1, e2]
  generalize sqS (xs.take i) = S at *
  have hi2 := wHi_inI S (by omega) (by omega)
  have hl2 := wLo_in S
  have hi3 := wHi_inI (satV xs[i] * satV xs[i]) (by omega) (by omega)
  have hl3 := wLo_in (satV xs[i] * satV xs[i])
  refine To.run (z := Zl) sound17 (slots := [0, 5, 12, 13, 14]) (blks := [0, 1, 2]) (vs := [A0, P2, .v (.one (.slx 1 o n c)), .v (.one (.int .i64 n)), .v (.one (.int .i64 ((i : Int) + 1)))])
    (bs := [flag 26 ((hb || anyH (xs.take i)) || satH xs[i]), ⟨ty, fr, es, l⟩, wB (S + satV xs[i] * satV xs[i])]) (nbB := 3)
    (fun dead => hc dead (hb || anyH (xs.take i)) o n c ty fr es l (wHi S) (wLo S) i) rfl (by rw [e4]; rfl) (by rw [e3, hx.1]; simp only [wVal_mk]; rfl) ?_ (kst_ok rfl (memOK3 (Nat.le_refl _) rfl (okL_mono noP_below hok) rfl)) (Nat.le_refl _)
  rw [e3, hx.1, hx.2, hI]
  simp only [wVal_mk, all_tt, isI_iff, isU_iff, isW_iff, Bool.and_eq_true, decide_eq_true_eq]
  repeat' apply And.intro
  all_goals first | exact ae_nil | exact True.intro | omega

theorem hyEnd (k : Blk) (o n c : Nat) (hok : okL noP k.cells = true) (h : Bool) (v : Int) : To Try.prog 34 (c1 (c1 (c2 hyBd))) (hyA k o n c h v n) (.exit 0) (hyB k h v) := by
  obtain ⟨ty, fr, es, l⟩ := k
  refine To.exec (z := Zl) sound17 (slots := [0, 5]) (blks := [0, 1, 2]) (vs := [A0, P2]) (bs := [flag 26 h, ⟨ty, fr, es, l⟩, wB v]) (nbB := 3) (fun dead => hd dead h o n c ty fr es l (wHi v) (wLo v) n) ?_ (kst_ok rfl (memOK3 (Nat.le_refl _) rfl (okL_mono noP_below hok) rfl)) (Nat.le_refl _)
  simp

theorem hyRd (k : Blk) (o n c : Nat) (xs : List Int) (hlen : xs.length = n) (hat : IntsAt k.cells o xs) (hok : okL noP k.cells = true) (hn : n ≤ 64) (hb : Bool) : ∀ (m i : Nat), i + m = n →
    Rd Try.prog 34 (c1 (c1 (c2 hyBd))) (m + 1) (hyA k o n c (hb || anyH (xs.take i)) (sqS (xs.take i)) i) (.exit 0) (hyB k (hb || anyH xs) (sqS xs))
  | 0, i, h => by
    have hi : i = n := by omega
    subst hi
    rw [← hlen, List.take_length, hlen]
    exact Rd.last (by simp) (hyEnd k o i c hok _ _)
  | m + 1, i, h => by
    have hs := hyStep k o n c xs hlen hat hok hn hb i (by omega)
    refine Rd.next hs ?_
    exact hyRd k o n c xs hlen hat hok hn hb m (i + 1) (by omega)

/-- The root of the squares' sum, clamped; the flag. -/
def hypV (xs : List Int) : Int := satV (rootW (sqS (xs.take 64)))
def hypH (xs : List Int) : Bool := anyH (xs.take 64) || satH (rootW (sqS (xs.take 64)))
def fhypS : List AV → Bool → Option (LV × Bool × List (Bool × Bool))
  | [.ints xs], hb => some (I (hypV xs), hb || hypH xs, [])
  | _, _ => none

theorem hnil (hb : Bool) : (runF Try.prog S17 Zl 2000 33 [A0, .v (.one .nilsl)] [(0, flag 26 hb)] 1 []).map (fun r => (r.1, getM r.2.1 0, r.2.2.2)) = some (I (hypV []), some (flag 26 (hb || hypH [])), [(decide ((0 : Int) < 0), false), (isI 0, true), (isU 0, true)]) := by kernel_rfl

theorem IntsAt.take {l : List At} {o : Nat} {xs : List Int} (h : IntsAt l o xs) (m : Nat) : IntsAt l o (xs.take m) := by
  intro j hj
  rw [List.length_take] at hj
  have := h j (by omega)
  rw [this, List.getElem_take]

theorem sumHyp : SumOK Try.prog 33 (acSum 26 1 fhypS) := by
  refine acSum1_ok (own_of sound17 Try.func33 (by kernel_rfl)) (fun avs hb r h => ?_) fun pre xs hb v h' cs hF hcc hp hv => ?_
  · unfold fhypS at h
    split at h
    · exact ⟨[], _, rfl⟩
    · cases h
  · have hpre : pre = [] := by
      cases pre with
      | nil => rfl
      | cons p pre =>
        simp only [List.map_cons, List.cons_append] at hF
        unfold fhypS at hF
        split at hF
        · rename_i he; simp at he
        · cases hF
    subst hpre
    have hF' : some (I (hypV xs), hb || hypH xs, []) = some (v, h', cs) := hF
    cases hF'
    refine ⟨fun k o n c hk hnc E w hrel => ?_, fun hx E w hrel => ?_⟩
    · have hlen : xs.length = n := by have := hk.1; omega
      have hok := hk.2.2
      have hat := IntsAt.take hk.2.1 64
      have hlt : (xs.take 64).length = min n 64 := by rw [List.length_take]; omega
      have hR := hyRd k o (min n 64) c (xs.take 64) hlt hat hok (by omega) hb (min n 64) 0 (by omega)
      have b0 := sqS_bd (xs.take 64)
      rw [hlt] at b0
      have hi2 := wHi_inI (sqS (xs.take 64)) (by omega) (by omega)
      have hl2 := wLo_in (sqS (xs.take 64))
      have hh0 : 0 ≤ wHi (sqS (xs.take 64)) := by unfold wHi; omega
      have eI : (if (64 : Int) < ↑n then 64 else (↑n : Int)) = ((min n 64 : Nat) : Int) := by split <;> omega
      have eN : ((min n 64 : Nat) : Int).toNat - (Int.ofNat 0).toNat = min n 64 := by simp
      have eO : (if c = (Int.ofNat 0).toNat then o else o + (Int.ofNat 0).toNat * 1) = o := by split <;> simp
      have eC : c - (Int.ofNat 0).toNat = c := by simp
      obtain ⟨ty, fr, es, l⟩ := k
      refine lcl_of_To (c := bodyF Try.prog 33) (e := .ret) (nb := 2) (B := ⟨[(4, .v (.one (.int .i64 (hypV xs))))], [(0, flag 26 (hb || hypH xs)), (1, ⟨ty, fr, es, l⟩)], 3⟩) Try.func33 (by kernel_rfl) (Nat.le_of_ble_eq_true (by kernel_rfl)) (Nat.le_of_ble_eq_true (by kernel_rfl))
        (fun u hu => ?_) (memOK2 (Nat.le_refl _) rfl (okL_mono noP_below hok)) ?_ (.inr rfl) (fun dead => by kernel_rfl) rfl (fun i b hib => ?_) E w hrel
      · simp only [List.nil_append, List.mem_cons, List.not_mem_nil, or_false] at hu
        rcases hu with rfl | rfl <;> rfl
      · refine To.spineR (z := Zl) sound17 (k := 2) (slots := [0, 1, 4, 5]) (blks := [0, 1, 2]) (vs := [A0, .v (.one (.slx 1 o n c)), .v (.one (.int .i64 0)), P2]) (bs := [flag 26 hb, ⟨ty, fr, es, l⟩, wB 0]) (nbB := 3) (by kernel_rfl) (fun dead => ha dead hb o n c ty fr es l) rfl rfl rfl (by simp) (kst_ok rfl (memOK3 (Nat.le_refl _) rfl (okL_mono noP_below hok) rfl)) (Nat.le_succ 2) ?_
        refine To.seq (by kernel_rfl) (To.seq (by kernel_rfl) (To.run (z := Zl) sound17 (slots := [0, 5, 12, 13, 14]) (blks := [0, 1, 2]) (vs := [A0, P2, .v (.one (.slx 1 o (min n 64) c)), .v (.one (.int .i64 ((min n 64 : Nat) : Int))), .v (.one (.int .i64 0))]) (bs := [flag 26 hb, ⟨ty, fr, es, l⟩, wB 0]) (nbB := 3) (fun dead => Go.Proofs.Ytnabopepomjncaa.hb dead hb o n c ty fr es l 0 0) rfl (by simp only [eI, eN, eO, eC]; rfl) rfl ?_ (kst_ok rfl (memOK3 (Nat.le_refl _) rfl (okL_mono noP_below hok) rfl)) (Nat.le_refl _))
          (To.block (id := 0) (by kernel_rfl) (To.loop (m := min n 64 + 1) (by kernel_rfl) ?_) (.inl rfl))) (C := _) (B := hyB ⟨ty, fr, es, l⟩ (hb || anyH (xs.take 64)) (sqS (xs.take 64))) ?_
        · simp only [eI, all_tt, Bool.and_eq_true, decide_eq_true_eq]
          have e0 : Int.ofNat 0 = 0 := rfl
          rw [e0]
          exact ⟨⟨by omega, by omega, by omega⟩, ae_nil⟩
        · have h0 : hyA ⟨ty, fr, es, l⟩ o (min n 64) c (hb || anyH ((xs.take 64).take 0)) (sqS ((xs.take 64).take 0)) ((0 : Nat) : Int) = ⟨[0, 5, 12, 13, 14].zip [A0, P2, .v (.one (.slx 1 o (min n 64) c)), .v (.one (.int .i64 ((min n 64 : Nat) : Int))), .v (.one (.int .i64 0))], [0, 1, 2].zip [flag 26 hb, ⟨ty, fr, es, l⟩, wB 0], 3⟩ := by
            unfold hyA
            simp only [List.take_zero, anyH, Bool.or_false, sqS]
            rfl
          rw [← h0]
          exact hR
        · refine To.run (z := Zl) sound17 (slots := [4]) (blks := [0, 1]) (vs := [.v (.one (.int .i64 (hypV xs)))]) (bs := [flag 26 (hb || hypH xs), ⟨ty, fr, es, l⟩]) (nbB := 3) (fun dead => he dead (hb || anyH (xs.take 64)) ty fr es l (wHi (sqS (xs.take 64))) (wLo (sqS (xs.take 64)))) rfl ?_ ?_ ?_ (kst_ok rfl (memOK2 (Nat.le_succ 2) rfl (okL_mono noP_below hok))) (Nat.le_refl _)
          · rw [wVal_mk]; rfl
          · rw [wVal_mk, Bool.or_assoc]; rfl
          · simp only [all_tt, all_ff, isI_iff, isU_iff, decide_eq_false_iff_not]
            exact ⟨by omega, hi2, hl2, ae_nil⟩
      · rcases get2 hib with ⟨rfl, rfl⟩ | ⟨rfl, rfl⟩
        · exact ⟨rfl, by decide, rfl⟩
        · exact ⟨rfl, by decide, okL_mono noP_below hok⟩
    · subst hx
      have hrun := hnil hb
      cases hq : runF Try.prog S17 Zl 2000 33 [A0, .v (.one .nilsl)] [(0, flag 26 hb)] 1 [] with
      | none => rw [hq] at hrun; cases hrun
      | some q =>
        obtain ⟨v', m2, nb', cs'⟩ := q
        rw [hq] at hrun
        simp only [Option.map_some, Option.some.injEq, Prod.mk.injEq] at hrun
        obtain ⟨rfl, hm2, rfl⟩ := hrun
        exact lcl_of_run sound17 hq (m' := [(0, flag 26 (hb || hypH []))]) (fun i c hic => by
            obtain ⟨rfl, rfl⟩ := get1 hic
            exact ⟨hm2, Nat.zero_lt_one, rfl⟩) (ae_cons rfl (ae_cons rfl (ae_cons rfl ae_nil))) rfl (fun a ha => by
            simp only [List.mem_cons, List.not_mem_nil, or_false] at ha
            rcases ha with rfl | rfl <;> rfl) rfl E w hrel

def S18 : FuncId → Option SumK := more (more S17 69 (accSum 26 fsqrtS)) 33 (acSum 26 1 fhypS)
theorem sound18 : Sound Try.prog S18 := (sound17.more sumSqrt).more sumHyp
end Go.Proofs.Ytnabopepomjncaa

/- root.Recip: its run. -/
namespace Go.Proofs.Ytnabopepomjncaa
open Go.Lr
set_option linter.unusedVariables false
theorem xrecipR1 (a : Int) (hb : Bool) : (runF Try.prog S18 Zl 2000 70 [A0, .v (.one (.int .i64 a))] [(0, flag 26 hb)] 1 []).map acc3 = some (LV.v (V1.one (At.int IntKind.i64 (divPV 1073741824 a 30))), some { ty := 26, fr := (0, 0), es := 0, cells := [At.bool (hb || divPH 1073741824 a 30)] }, []) := by kernel_rfl
def xrecipT (a : Int) (hb : Bool) : Option (LV × Bool × List (Bool × Bool)) := some (LV.v (V1.one (At.int IntKind.i64 (divPV 1073741824 a 30))), (hb || divPH 1073741824 a 30), [])
def xrecipF : List LV → Bool → Option (LV × Bool × List (Bool × Bool))
  | [.v (.one (.int .i64 a))], hb => xrecipT a hb
  | _, _ => none
theorem sumxrecip : SumOK Try.prog 70 (accSum 26 xrecipF) := by
  refine accSum_run (z := Zl) sound18 (own_of sound18 Try.func70 (by kernel_rfl)) fun args hb v h' cs hF hc => ?_
  unfold xrecipF at hF
  split at hF
  · rename_i a
    unfold xrecipT at hF
    cases hF
    exact ⟨rfl, 2000, [], _, xrecipR1 a hb, ae_nil⟩
  · cases hF


def recipS : List LV → Bool → Option (LV × Bool × List (Bool × Bool))
  | [.v (.one (.int .i64 a))], hb => some (I (divPV 1073741824 a 30), hb || divPH 1073741824 a 30, [])
  | _, _ => none
theorem sumRecip : SumOK Try.prog 70 (accSum 26 recipS) := by
  refine sumxrecip.acc_re fun args hb v h' cs hF hc => ?_
  unfold recipS at hF
  split at hF
  · rename_i a
    cases hF
    exact ⟨[], rfl, ae_nil⟩
  · cases hF
def S19 : FuncId → Option SumK := more S18 70 (accSum 26 recipS)
theorem sound19 : Sound Try.prog S19 := sound18.more sumRecip
end Go.Proofs.Ytnabopepomjncaa

/- The law folder's awake, of chapters 2 and 3: its run, with all that is told of the scalars. -/
namespace Go.Proofs.Ytnabopepomjncaa
open Go.Lr
theorem runAwakeB : (runF Try.prog S1 Zc 2000 11 [] [] 0 []).map (fun r => (r.1, r.2.2.2)) = some (B true, []) := by kernel_rfl
theorem sumAwakeB : SumOK Try.prog 11 (pureSum trueF) := pureSum_const sound1 (own_of sound1 Try.func11 (by kernel_rfl)) runAwakeB
theorem runAwakeC : (runF Try.prog S19 Zc 2000 32 [] [] 0 []).map (fun r => (r.1, r.2.2.2)) = some (B true, []) := by kernel_rfl
theorem sumAwakeC : SumOK Try.prog 32 (pureSum trueF) := pureSum_const sound19 (own_of sound19 Try.func32 (by kernel_rfl)) runAwakeC
def S20 : FuncId → Option SumK := more (more S19 11 (pureSum trueF)) 32 (pureSum trueF)
theorem sound20 : Sound Try.prog S20 := (sound19.more sumAwakeB).more sumAwakeC
end Go.Proofs.Ytnabopepomjncaa

/- The local evaluator: summaries of functions that are handed two slices of numbers. -/
namespace Go.Lr
open Go.RowKit

section
variable {P : Program} {S : FuncId → Option SumK} {z : Md}

/-- A slice's argument: of a block, or nil. -/
def SlArg (es : Nat) (g : Nat → Option Blk) (s : LV) (bs : List Nat) (xs : List Int) : Prop :=
  (∃ b k cs, slB s = some b ∧ bs = [b] ∧ g b = some k ∧ slInts es s k = some (xs, cs) ∧ ∀ c ∈ cs, c.1 = c.2) ∨ (s = .v (.one .nilsl) ∧ bs = [] ∧ xs = [])

theorem shape1' {es : Nat} {xs : List Int} {g : Nat → Option Blk} {rest : List LV} {rdB : List Blk} {bl : List Nat} {cs0 : List (Bool × Bool)} (h1 : rdA rest = some bl) (h2 : liveAll g bl = some rdB) (h3 : avA es rest rdB = some ([.ints xs], cs0)) (h4 : ∀ c ∈ cs0, c.1 = c.2) :
    ∃ s, rest = [s] ∧ SlArg es g s bl xs := by
  obtain ⟨-, h⟩ := shape1 (es := es) (xs := xs) (g := g) [] rest rdB bl cs0 h1 h2 h3 h4
  rcases h with ⟨s, b, k, cs, e, h⟩ | ⟨e, h⟩
  · exact ⟨s, e, .inl ⟨b, k, cs, h⟩⟩
  · refine ⟨_, e, .inr ⟨rfl, ?_, h⟩⟩
    rw [e] at h1
    cases h1
    rfl

theorem shape2 {es : Nat} {xs ys : List Int} {g : Nat → Option Blk} : ∀ (pre : List LV) (rest : List LV) (rdB : List Blk) (bl : List Nat) (cs0 : List (Bool × Bool)), rdA rest = some bl → liveAll g bl = some rdB → avA es rest rdB = some (pre.map AV.pl ++ [.ints xs, .ints ys], cs0) → (∀ c ∈ cs0, c.1 = c.2) →
  plainVs pre = true ∧ ∃ s1 s2 b1 b2, rest = pre ++ [s1, s2] ∧ bl = b1 ++ b2 ∧ SlArg es g s1 b1 xs ∧ SlArg es g s2 b2 ys := by
  intro pre
  induction pre with
  | nil =>
    intro rest rdB bl cs0 h1 h2 h3 h4
    refine ⟨rfl, ?_⟩
    cases rest with
    | nil => simp [avA] at h3
    | cons s rest =>
      simp only [avA, List.map_nil, List.nil_append] at h3
      split at h3
      · rename_i b hsl
        simp only [rdA, hsl] at h1
        split at h1
        · rename_i r hr1
          cases h1
          obtain ⟨k, r', hk, hr', rfl⟩ := liveAll_cons h2
          simp only at h3
          split at h3
          · rename_i xs' cs1 hx
            split at h3
            · rename_i r2 cs2 hav
              simp only [Option.some.injEq, Prod.mk.injEq, List.cons.injEq, AV.ints.injEq] at h3
              obtain ⟨⟨rfl, hnil⟩, hcs⟩ := h3
              subst hnil
              subst hcs
              obtain ⟨s2, rfl, h⟩ := shape1' hr1 hr' hav fun c hcm => h4 c (List.mem_append_right _ hcm)
              exact ⟨s, s2, [b], r, rfl, rfl, .inl ⟨b, k, cs1, hsl, rfl, hk, hx, fun c hcm => h4 c (List.mem_append_left _ hcm)⟩, h⟩
            · cases h3
          · cases h3
        · cases h1
      · rename_i hsl
        split at h3
        · rename_i hnil
          split at h3
          · rename_i r2 cs2 hav
            simp only [Option.some.injEq, Prod.mk.injEq, List.cons.injEq, AV.ints.injEq] at h3
            obtain ⟨⟨hx, hn2⟩, hcs⟩ := h3
            subst hn2
            simp only [rdA, hsl] at h1
            split at h1
            · obtain ⟨s2, rfl, h⟩ := shape1' h1 h2 hav fun c hcm => h4 c (by rw [← hcs]; exact hcm)
              refine ⟨s, s2, [], bl, rfl, rfl, .inr ⟨?_, rfl, hx.symm⟩, h⟩
              unfold isNilS at hnil
              split at hnil
              · rfl
              · cases hnil
            · cases h1
          · cases h3
        · split at h3 <;> simp at h3
  | cons q pre ih =>
    intro rest rdB bl cs0 h1 h2 h3 h4
    cases rest with
    | nil => simp [avA] at h3
    | cons s rest =>
      simp only [avA, List.map_cons, List.cons_append] at h3
      split at h3
      · rename_i b hsl
        (repeat' split at h3) <;> simp at h3
      · rename_i hsl
        split at h3
        · (repeat' split at h3) <;> simp at h3
        · split at h3
          · rename_i r2 cs2 hav
            simp only [Option.some.injEq, Prod.mk.injEq, List.cons.injEq, AV.pl.injEq] at h3
            obtain ⟨⟨rfl, hr2⟩, rfl⟩ := h3
            simp only [rdA, hsl] at h1
            split at h1
            · rename_i hq
              rw [hr2] at hav
              obtain ⟨i1, s1, s2, b1, b2, i2, i3⟩ := ih rest rdB bl cs2 h1 h2 hav h4
              exact ⟨by simp only [plainVs, hq, i1], s1, s2, b1, b2, by rw [i2]; rfl, i3⟩
            · cases h1
          · cases h3

theorem get3 {kc k1 k2 q : Blk} {i : Nat} (hq : getM [(0, kc), (1, k1), (2, k2)] i = some q) : (i = 0 ∧ q = kc) ∨ (i = 1 ∧ q = k1) ∨ (i = 2 ∧ q = k2) := by
  rw [getM_cons] at hq
  by_cases hi : i = 0
  · subst hi; rw [if_pos rfl] at hq; cases hq; exact .inl ⟨rfl, rfl⟩
  · rw [if_neg hi, getM_cons] at hq
    by_cases hi1 : i = 1
    · subst hi1; rw [if_pos rfl] at hq; cases hq; exact .inr (.inl ⟨rfl, rfl⟩)
    · rw [if_neg hi1, getM_cons] at hq
      by_cases hi2 : i = 2
      · subst hi2; rw [if_pos rfl] at hq; cases hq; exact .inr (.inr ⟨rfl, rfl⟩)
      · rw [if_neg hi2] at hq; simp [getM] at hq
theorem rel3 {E E1 : Env} {g : Nat → Option Blk} {w : World} {c b1 b2 : Nat} {kc k1 k2 : Blk} (hrel : Rel E g w) (hkc : g c = some kc) (hk1 : g b1 = some k1) (hk2 : g b2 = some k2) (h01 : c ≠ b1) (h02 : c ≠ b2) (h12 : b1 ≠ b2)
    (o0 : okL noP kc.cells = true) (o1 : okL noP k1.cells = true) (o2 : okL noP k2.cells = true) (h0 : E1 0 = E c) (h1 : E1 1 = E b1) (h2 : E1 2 = E b2) : Rel E1 (getM [(0, kc), (1, k1), (2, k2)]) w := by
  refine ⟨fun i q hq => ?_, fun i j hi hj he => ?_⟩
  · rcases get3 hq with ⟨rfl, rfl⟩ | ⟨rfl, rfl⟩ | ⟨rfl, rfl⟩
    · exact blkAt_ren o0 h0 (hrel.blk c _ hkc)
    · exact blkAt_ren o1 h1 (hrel.blk b1 _ hk1)
    · exact blkAt_ren o2 h2 (hrel.blk b2 _ hk2)
  · have i01 : ∀ {a b}, (g a).isSome → (g b).isSome → a ≠ b → (E a).1 ≠ (E b).1 := fun ha hb hn e => hn (hrel.inj _ _ ha hb e)
    have sc : (g c).isSome := by rw [hkc]; rfl
    have s1 : (g b1).isSome := by rw [hk1]; rfl
    have s2 : (g b2).isSome := by rw [hk2]; rfl
    obtain ⟨qi, hqi⟩ := Option.isSome_iff_exists.1 hi
    obtain ⟨qj, hqj⟩ := Option.isSome_iff_exists.1 hj
    rcases get3 hqi with ⟨rfl, -⟩ | ⟨rfl, -⟩ | ⟨rfl, -⟩ <;> rcases get3 hqj with ⟨rfl, -⟩ | ⟨rfl, -⟩ | ⟨rfl, -⟩
    · rfl
    · rw [h0, h1] at he; exact absurd he (i01 sc s1 h01)
    · rw [h0, h2] at he; exact absurd he (i01 sc s2 h02)
    · rw [h0, h1] at he; exact absurd he.symm (i01 sc s1 h01)
    · rfl
    · rw [h1, h2] at he; exact absurd he (i01 s1 s2 h12)
    · rw [h0, h2] at he; exact absurd he.symm (i01 sc s2 h02)
    · rw [h1, h2] at he; exact absurd he.symm (i01 s1 s2 h12)
    · rfl

/-- Three numbers' worth of a map. -/
def ren3 (a b c : Nat) : Nat → Nat
  | 0 => a
  | 1 => b
  | _ => c

def NIL : LV := .v (.one .nilsl)
def SLX (b o n c : Nat) : LV := .v (.one (.slx b o n c))

/-- What must be shown of a function with two slices, handed last. -/
structure Two (P : Program) (f : FuncId) (ty : TypeId) (es : Nat) (pre : List LV) (xs ys : List Int) (hb h' : Bool) (v : LV) : Prop where
  two : ∀ (k1 : Blk) (o1 n1 c1 : Nat) (k2 : Blk) (o2 n2 c2 : Nat), SlAt es k1 o1 n1 xs → SlAt es k2 o2 n2 ys → ∀ (E : Env) (w : World), Rel E (getM [(0, flag ty hb), (1, k1), (2, k2)]) w →
    Calls P f ((A0 :: (pre ++ [SLX 1 o1 n1 c1, SLX 2 o2 n2 c2])).map (LV.den E)).toArray w fun e w' => e = .returned (v.den E0) ∧ Lcl E [(0, flag ty hb), (1, k1), (2, k2)] [(0, flag ty h'), (1, k1), (2, k2)] w w'
  one : ∀ (k : Blk) (o1 n1 c1 : Nat) (o2 n2 c2 : Nat), SlAt es k o1 n1 xs → SlAt es k o2 n2 ys → ∀ (E : Env) (w : World), Rel E (getM [(0, flag ty hb), (1, k)]) w →
    Calls P f ((A0 :: (pre ++ [SLX 1 o1 n1 c1, SLX 1 o2 n2 c2])).map (LV.den E)).toArray w fun e w' => e = .returned (v.den E0) ∧ Lcl E [(0, flag ty hb), (1, k)] [(0, flag ty h'), (1, k)] w w'
  right : xs = [] → ∀ (k : Blk) (o n c : Nat), SlAt es k o n ys → ∀ (E : Env) (w : World), Rel E (getM [(0, flag ty hb), (1, k)]) w →
    Calls P f ((A0 :: (pre ++ [NIL, SLX 1 o n c])).map (LV.den E)).toArray w fun e w' => e = .returned (v.den E0) ∧ Lcl E [(0, flag ty hb), (1, k)] [(0, flag ty h'), (1, k)] w w'
  left : ys = [] → ∀ (k : Blk) (o n c : Nat), SlAt es k o n xs → ∀ (E : Env) (w : World), Rel E (getM [(0, flag ty hb), (1, k)]) w →
    Calls P f ((A0 :: (pre ++ [SLX 1 o n c, NIL])).map (LV.den E)).toArray w fun e w' => e = .returned (v.den E0) ∧ Lcl E [(0, flag ty hb), (1, k)] [(0, flag ty h'), (1, k)] w w'
  none : xs = [] → ys = [] → ∀ (E : Env) (w : World), Rel E (getM [(0, flag ty hb)]) w →
    Calls P f ((A0 :: (pre ++ [NIL, NIL])).map (LV.den E)).toArray w fun e w' => e = .returned (v.den E0) ∧ Lcl E [(0, flag ty hb)] [(0, flag ty h')] w w'

theorem acSum2_ok {f : FuncId} (ho : Own P f) {ty : TypeId} {es : Nat} {F : List AV → Bool → Option (LV × Bool × List (Bool × Bool))}
    (hF1 : ∀ avs hb r, F avs hb = some r → ∃ (pre : List LV) (xs ys : List Int), avs = pre.map AV.pl ++ [.ints xs, .ints ys])
    (h : ∀ (pre : List LV) (xs ys : List Int) (hb : Bool) (v : LV) (h' : Bool) (cs : List (Bool × Bool)), F (pre.map AV.pl ++ [.ints xs, .ints ys]) hb = some (v, h', cs) → (∀ c ∈ cs, c.1 = c.2) → plainVs pre = true → v.ok noP = true →
      Two P f ty es pre xs ys hb h' v) : SumOK P f (acSum ty es F) := by
  intro args t g nb p rdB wrB ans ws E w hs hr hw _ hgo hz hc hrel hg hargs hn
  unfold acSum at hs
  split at hs
  · rename_i c rest
    split at hs
    · rename_i bl hbl
      split at hs
      · rename_i hmem
        cases hs
        simp only at hgo hw hr
        split at hgo
        · rename_i t' hb
          split at hgo
          · rename_i hty
            rw [nbeq] at hty
            have hty' : t' = ty := by simpa using hty
            subst hty'
            split at hgo
            · rename_i avs cs0 has
              split at hgo
              · rename_i v h' cs hF
                split at hgo
                · rename_i hv
                  cases hgo
                  obtain ⟨kc, r', hkc, hr', hrr⟩ := liveAll_cons hw
                  cases liveAll_nil hr'
                  cases hrr
                  simp only [zipW] at hz
                  cases hz
                  simp only at hc ⊢
                  have hc0 : ∀ c ∈ cs0, c.1 = c.2 := fun c hcm => hc c (List.mem_append_left _ hcm)
                  have hc1 : ∀ c ∈ cs, c.1 = c.2 := fun c hcm => hc c (List.mem_append_right _ hcm)
                  obtain ⟨pre, xs, ys, rfl⟩ := hF1 _ _ _ hF
                  obtain ⟨hp, s1, s2, b1, b2, rfl, rfl, hs1, hs2⟩ := shape2 (es := es) (xs := xs) (ys := ys) (g := g) pre rest rdB bl cs0 hbl hr has hc0
                  have H := h pre xs ys hb v h' cs hF hc1 hp hv
                  have hpre := plainVs_iff.1 hp
                  have hf0 : (⟨t', (0, 0), 0, [.bool hb]⟩ : Blk) = flag t' hb := rfl
                  rw [hf0] at hkc
                  have hnc : ∀ b ∈ b1 ++ b2, c ≠ b := fun b hbm e => by
                    subst e
                    have := memB_false hmem
                    exact this hbm
                  rcases hs1 with ⟨d1, k1, q1, e1, rfl, hk1, hi1, hq1⟩ | ⟨rfl, rfl, rfl⟩ <;> rcases hs2 with ⟨d2, k2, q2, e2, rfl, hk2, hi2, hq2⟩ | ⟨rfl, rfl, rfl⟩
                  · obtain ⟨o1, n1, cc1, hsa1, -, hden1⟩ := slInts_loc hi1 hq1 e1 (hrel.blk d1 k1 hk1)
                    obtain ⟨o2, n2, cc2, hsa2, -, hden2⟩ := slInts_loc hi2 hq2 e2 (hrel.blk d2 k2 hk2)
                    have hc1 : c ≠ d1 := hnc d1 (by simp)
                    have hc2 : c ≠ d2 := hnc d2 (by simp)
                    by_cases hd : d1 = d2
                    · subst hd
                      rw [hk1] at hk2
                      cases hk2
                      generalize hE1 : (fun i => E (ren2 c d1 i)) = E1
                      have hE : ∀ i, E1 i = E (ren2 c d1 i) := fun i => by rw [← hE1]
                      have hcl := H.one k1 o1 n1 cc1 o2 n2 cc2 hsa1 hsa2 E1 w (rel2 hrel hkc hk1 hc1 rfl hsa1.2.2 (hE 0) (hE 1))
                      refine call_up ho hE hrel hkc rfl rfl (fun i q hq => ?_) (fun i q h0 hq => ?_) (fun i q hq => ?_) ?_ hv hcl
                      · rcases get2 hq with ⟨rfl, rfl⟩ | ⟨rfl, rfl⟩
                        · exact hkc
                        · exact hk1
                      · rw [getM_cons, if_neg h0] at hq ⊢; exact hq
                      · rcases get2 hq with ⟨rfl, rfl⟩ | ⟨rfl, rfl⟩
                        · rfl
                        · exact hsa1.2.2
                      · simp only [List.map_cons, List.map_append, List.map_nil]
                        rw [hden1 E1 1 (hE 1), hden2 E1 1 (hE 1), denL_noP hpre, denL_noP (E := E1) hpre]
                        congr 1
                        show LV.den E (.v (.one (.ptr c 0))) = LV.den E1 (.v (.one (.ptr 0 0)))
                        simp only [LV.den, V1.den, At.den, hE, ren2]
                    · generalize hE1 : (fun i => E (ren3 c d1 d2 i)) = E1
                      have hE : ∀ i, E1 i = E (ren3 c d1 d2 i) := fun i => by rw [← hE1]
                      have hcl := H.two k1 o1 n1 cc1 k2 o2 n2 cc2 hsa1 hsa2 E1 w (rel3 hrel hkc hk1 hk2 hc1 hc2 hd rfl hsa1.2.2 hsa2.2.2 (hE 0) (hE 1) (hE 2))
                      refine call_up ho hE hrel hkc rfl rfl (fun i q hq => ?_) (fun i q h0 hq => ?_) (fun i q hq => ?_) ?_ hv hcl
                      · rcases get3 hq with ⟨rfl, rfl⟩ | ⟨rfl, rfl⟩ | ⟨rfl, rfl⟩
                        · exact hkc
                        · exact hk1
                        · exact hk2
                      · rw [getM_cons, if_neg h0] at hq ⊢; exact hq
                      · rcases get3 hq with ⟨rfl, rfl⟩ | ⟨rfl, rfl⟩ | ⟨rfl, rfl⟩
                        · rfl
                        · exact hsa1.2.2
                        · exact hsa2.2.2
                      · simp only [List.map_cons, List.map_append, List.map_nil]
                        rw [hden1 E1 1 (hE 1), hden2 E1 2 (hE 2), denL_noP hpre, denL_noP (E := E1) hpre]
                        congr 1
                        show LV.den E (.v (.one (.ptr c 0))) = LV.den E1 (.v (.one (.ptr 0 0)))
                        simp only [LV.den, V1.den, At.den, hE, ren3]
                  · obtain ⟨o1, n1, cc1, hsa1, -, hden1⟩ := slInts_loc hi1 hq1 e1 (hrel.blk d1 k1 hk1)
                    have hc1 : c ≠ d1 := hnc d1 (by simp)
                    generalize hE1 : (fun i => E (ren2 c d1 i)) = E1
                    have hE : ∀ i, E1 i = E (ren2 c d1 i) := fun i => by rw [← hE1]
                    have hcl := H.left rfl k1 o1 n1 cc1 hsa1 E1 w (rel2 hrel hkc hk1 hc1 rfl hsa1.2.2 (hE 0) (hE 1))
                    refine call_up ho hE hrel hkc rfl rfl (fun i q hq => ?_) (fun i q h0 hq => ?_) (fun i q hq => ?_) ?_ hv hcl
                    · rcases get2 hq with ⟨rfl, rfl⟩ | ⟨rfl, rfl⟩
                      · exact hkc
                      · exact hk1
                    · rw [getM_cons, if_neg h0] at hq ⊢; exact hq
                    · rcases get2 hq with ⟨rfl, rfl⟩ | ⟨rfl, rfl⟩
                      · rfl
                      · exact hsa1.2.2
                    · simp only [List.map_cons, List.map_append, List.map_nil]
                      rw [hden1 E1 1 (hE 1), denL_noP hpre, denL_noP (E := E1) hpre]
                      congr 1
                      show LV.den E (.v (.one (.ptr c 0))) = LV.den E1 (.v (.one (.ptr 0 0)))
                      simp only [LV.den, V1.den, At.den, hE, ren2]
                  · obtain ⟨o1, n1, cc1, hsa1, -, hden1⟩ := slInts_loc hi2 hq2 e2 (hrel.blk d2 k2 hk2)
                    have hc1 : c ≠ d2 := hnc d2 (by simp)
                    generalize hE1 : (fun i => E (ren2 c d2 i)) = E1
                    have hE : ∀ i, E1 i = E (ren2 c d2 i) := fun i => by rw [← hE1]
                    have hcl := H.right rfl k2 o1 n1 cc1 hsa1 E1 w (rel2 hrel hkc hk2 hc1 rfl hsa1.2.2 (hE 0) (hE 1))
                    refine call_up ho hE hrel hkc rfl rfl (fun i q hq => ?_) (fun i q h0 hq => ?_) (fun i q hq => ?_) ?_ hv hcl
                    · rcases get2 hq with ⟨rfl, rfl⟩ | ⟨rfl, rfl⟩
                      · exact hkc
                      · exact hk2
                    · rw [getM_cons, if_neg h0] at hq ⊢; exact hq
                    · rcases get2 hq with ⟨rfl, rfl⟩ | ⟨rfl, rfl⟩
                      · rfl
                      · exact hsa1.2.2
                    · simp only [List.map_cons, List.map_append, List.map_nil]
                      rw [hden1 E1 1 (hE 1), denL_noP hpre, denL_noP (E := E1) hpre]
                      congr 1
                      show LV.den E (.v (.one (.ptr c 0))) = LV.den E1 (.v (.one (.ptr 0 0)))
                      simp only [LV.den, V1.den, At.den, hE, ren2]
                  · generalize hE1 : (fun _ : Nat => E c) = E1
                    have hE : ∀ i, E1 i = E ((fun _ => c) i) := fun i => by rw [← hE1]
                    have hcl := H.none rfl rfl E1 w (rel1 hrel hkc rfl (hE 0))
                    refine call_up ho hE hrel hkc rfl rfl (fun i q hq => ?_) (fun i q h0 hq => ?_) (fun i q hq => ?_) ?_ hv hcl
                    · obtain ⟨rfl, rfl⟩ := get1 hq; exact hkc
                    · exact absurd (get1 hq).1 h0
                    · obtain ⟨rfl, rfl⟩ := get1 hq; rfl
                    · simp only [List.map_cons, List.map_append, List.map_nil]
                      rw [denL_noP hpre, denL_noP (E := E1) hpre]
                      congr 1
                      show LV.den E (.v (.one (.ptr c 0))) = LV.den E1 (.v (.one (.ptr 0 0)))
                      simp only [LV.den, V1.den, At.den, hE]
                · cases hgo
              · cases hgo
            · cases hgo
          · cases hgo
        · cases hgo
      · cases hs
    · cases hs
  · cases hs

end
end Go.Lr

/- fx.Dot: its walk, round by round. -/
namespace Go.Proofs.Ytnabopepomjncaa
open Go.Lr
set_option linter.unusedVariables false
set_option linter.unusedSimpArgs false

theorem dot_two_a (dead : Nat → Value) (hb : Bool) (s : Int) (oa na ca ob nn cb : Nat) (ty : TypeId) (fr : Nat × Nat) (es : Nat) (l : List At) (ty2 : TypeId) (fr2 : Nat × Nat) (es2 : Nat) (l2 : List At) : projS [0,1,2,3,9] [0,1,2,3] (execL Try.prog S18 Zl 400 (spineL 3 (bodyF Try.prog 15)) (Kst.st ⟨argsL 0 [A0, I s, SLX 1 oa na ca, SLX 2 ob nn cb], [(0, flag 26 hb), (1, ⟨ty, fr, es, l⟩), (2, ⟨ty2, fr2, es2, l2⟩)], 3⟩ 53 dead [some false, some false, some false, some false])) = some (Ex.normal, [LV.v (V1.one (At.ptr 0 0)), LV.v (V1.one (At.int IntKind.i64 s)), LV.v (V1.one (At.slx 1 oa na ca)), LV.v (V1.one (At.slx 2 ob nn cb)), LV.v (V1.one (At.ptr 3 0))], [some { ty := 26, fr := (0, 0), es := 0, cells := [At.bool hb] }, some { ty := ty, fr := fr, es := es, cells := l }, some { ty := ty2, fr := fr2, es := es2, cells := l2 }, some { ty := 95, fr := (0, 0), es := 0, cells := [At.int IntKind.i64 0, At.int IntKind.u64 0] }], [(decide (s > 120), false), (decide (s < 0), false), (decide (s < 0), false), (decide (s < 0), false)]) := by kernel_rfl
theorem dot_two_b (dead : Nat → Value) (hb : Bool) (s : Int) (oa na ca ob nn cb : Nat) (ty : TypeId) (fr : Nat × Nat) (es : Nat) (l : List At) (ty2 : TypeId) (fr2 : Nat × Nat) (es2 : Nat) (l2 : List At) (x y : Int) : projS [0,1,2,3,9,25,26] [0,1,2,3] (exec Try.prog S18 Zl 400 (.code (c1 (c1 (c2 (c2 (c2 (bodyF Try.prog 15))))))) (Kst.st ⟨[(0, A0), (1, I s), (2, SLX 1 oa na ca), (3, SLX 2 ob nn cb), (9, .v (.one (.ptr 3 0)))], [(0, flag 26 hb), (1, ⟨ty, fr, es, l⟩), (2, ⟨ty2, fr2, es2, l2⟩), (3, ⟨95, (0,0), 0, [.int .i64 x, .int .u64 y]⟩)], 4⟩ 53 dead [])) = some (Ex.normal, [LV.v (V1.one (At.ptr 0 0)), LV.v (V1.one (At.int IntKind.i64 s)), LV.v (V1.one (At.slx 1 oa na ca)), LV.v (V1.one (At.slx 2 ob nn cb)), LV.v (V1.one (At.ptr 3 0)), LV.v (V1.one (At.int IntKind.i64 (if 100 < if (nn : Int) < (na : Int) then (nn : Int) else (na : Int) then 100 else if (nn : Int) < (na : Int) then (nn : Int) else (na : Int)))), LV.v (V1.one (At.int IntKind.i64 0))], [some { ty := 26, fr := (0, 0), es := 0, cells := [At.bool hb] }, some { ty := ty, fr := fr, es := es, cells := l }, some { ty := ty2, fr := fr2, es := es2, cells := l2 }, some { ty := 95, fr := (0, 0), es := 0, cells := [At.int IntKind.i64 x, At.int IntKind.u64 y] }], []) := by kernel_rfl
theorem dot_two_c (dead : Nat → Value) (hb : Bool) (s : Int) (oa na ca ob nn cb : Nat) (ty : TypeId) (fr : Nat × Nat) (es : Nat) (l : List At) (ty2 : TypeId) (fr2 : Nat × Nat) (es2 : Nat) (l2 : List At) (x y : Int) (mm i : Int) : projS [0,1,2,3,9,25,26] [0,1,2,3] (exec Try.prog S18 Zl 400 (.code (c1 (c1 (c2 (c1 (c2 (c2 (c2 (bodyF Try.prog 15))))))))) (Kst.st ⟨[(0, A0), (1, I s), (2, SLX 1 oa na ca), (3, SLX 2 ob nn cb), (9, .v (.one (.ptr 3 0))), (25, I mm), (26, I i)], [(0, flag 26 hb), (1, ⟨ty, fr, es, l⟩), (2, ⟨ty2, fr2, es2, l2⟩), (3, ⟨95, (0,0), 0, [.int .i64 x, .int .u64 y]⟩)], 4⟩ 53 dead [some true])) = some (Ex.normal, [LV.v (V1.one (At.ptr 0 0)), LV.v (V1.one (At.int IntKind.i64 s)), LV.v (V1.one (At.slx 1 oa na ca)), LV.v (V1.one (At.slx 2 ob nn cb)), LV.v (V1.one (At.ptr 3 0)), LV.v (V1.one (At.int IntKind.i64 mm)), LV.v (V1.one (At.int IntKind.i64 (wr IntKind.i64 (i + 1))))], [some { ty := 26, fr := (0, 0), es := 0, cells := [At.bool (hb || satH (intAt l (oa + i.toNat * 1)) || satH (intAt l2 (ob + i.toNat * 1)))] }, some { ty := ty, fr := fr, es := es, cells := l }, some { ty := ty2, fr := fr2, es := es2, cells := l2 }, some { ty := 95, fr := (0, 0), es := 0, cells := [At.int IntKind.i64 (wHi (wVal x y + wVal (wHi (satV (intAt l (oa + i.toNat * 1)) * satV (intAt l2 (ob + i.toNat * 1)))) (wLo (satV (intAt l (oa + i.toNat * 1)) * satV (intAt l2 (ob + i.toNat * 1)))))), At.int IntKind.u64 (wLo (wVal x y + wVal (wHi (satV (intAt l (oa + i.toNat * 1)) * satV (intAt l2 (ob + i.toNat * 1)))) (wLo (satV (intAt l (oa + i.toNat * 1)) * satV (intAt l2 (ob + i.toNat * 1))))))] }], [(isI x, true), (isU y, true), (isI (wHi (satV (intAt l (oa + i.toNat * 1)) * satV (intAt l2 (ob + i.toNat * 1)))), true), (isU (wLo (satV (intAt l (oa + i.toNat * 1)) * satV (intAt l2 (ob + i.toNat * 1)))), true), (isW (wVal x y + wVal (wHi (satV (intAt l (oa + i.toNat * 1)) * satV (intAt l2 (ob + i.toNat * 1)))) (wLo (satV (intAt l (oa + i.toNat * 1)) * satV (intAt l2 (ob + i.toNat * 1))))), true), (isI (satV (intAt l (oa + i.toNat * 1))), true), (isI (satV (intAt l2 (ob + i.toNat * 1))), true), (isIntAt IntKind.i64 l2 (ob + i.toNat * 1), true), (decide (0 ≤ i) && decide (i < (nn : Int)), true), (isIntAt IntKind.i64 l (oa + i.toNat * 1), true), (decide (0 ≤ i) && decide (i < (na : Int)), true), (decide (i < mm), true)]) := by kernel_rfl
theorem dot_two_d (dead : Nat → Value) (hb : Bool) (s : Int) (oa na ca ob nn cb : Nat) (ty : TypeId) (fr : Nat × Nat) (es : Nat) (l : List At) (ty2 : TypeId) (fr2 : Nat × Nat) (es2 : Nat) (l2 : List At) (x y : Int) (mm i : Int) : projS [0,1,9] [0,1,2,3] (exec Try.prog S18 Zl 400 (.code (c1 (c1 (c2 (c1 (c2 (c2 (c2 (bodyF Try.prog 15))))))))) (Kst.st ⟨[(0, A0), (1, I s), (2, SLX 1 oa na ca), (3, SLX 2 ob nn cb), (9, .v (.one (.ptr 3 0))), (25, I mm), (26, I i)], [(0, flag 26 hb), (1, ⟨ty, fr, es, l⟩), (2, ⟨ty2, fr2, es2, l2⟩), (3, ⟨95, (0,0), 0, [.int .i64 x, .int .u64 y]⟩)], 4⟩ 53 dead [some false])) = some (Ex.exit 0, [LV.v (V1.one (At.ptr 0 0)), LV.v (V1.one (At.int IntKind.i64 s)), LV.v (V1.one (At.ptr 3 0))], [some { ty := 26, fr := (0, 0), es := 0, cells := [At.bool hb] }, some { ty := ty, fr := fr, es := es, cells := l }, some { ty := ty2, fr := fr2, es := es2, cells := l2 }, some { ty := 95, fr := (0, 0), es := 0, cells := [At.int IntKind.i64 x, At.int IntKind.u64 y] }], [(decide (i < mm), false)]) := by kernel_rfl
theorem dot_two_e (dead : Nat → Value) (hb : Bool) (s : Int) (oa na ca ob nn cb : Nat) (ty : TypeId) (fr : Nat × Nat) (es : Nat) (l : List At) (ty2 : TypeId) (fr2 : Nat × Nat) (es2 : Nat) (l2 : List At) (x y : Int) : projS [8] [0,1,2] (exec Try.prog S18 Zl 400 (.code (c2 (c2 (c2 (c2 (bodyF Try.prog 15)))))) (Kst.st ⟨[(0, A0), (1, I s), (9, .v (.one (.ptr 3 0)))], [(0, flag 26 hb), (1, ⟨ty, fr, es, l⟩), (2, ⟨ty2, fr2, es2, l2⟩), (3, ⟨95, (0,0), 0, [.int .i64 x, .int .u64 y]⟩)], 4⟩ 53 dead [])) = some (Ex.ret, [LV.v (V1.one (At.int IntKind.i64 (rndS (wVal x y) s)))], [some { ty := 26, fr := (0, 0), es := 0, cells := [At.bool (hb || rndH (wVal x y) s)] }, some { ty := ty, fr := fr, es := es, cells := l }, some { ty := ty2, fr := fr2, es := es2, cells := l2 }], [(isI x, true), (isU y, true)]) := by kernel_rfl
theorem dot_one_a (dead : Nat → Value) (hb : Bool) (s : Int) (oa na ca ob nn cb : Nat) (ty : TypeId) (fr : Nat × Nat) (es : Nat) (l : List At) : projS [0,1,2,3,9] [0,1,3] (execL Try.prog S18 Zl 400 (spineL 3 (bodyF Try.prog 15)) (Kst.st ⟨argsL 0 [A0, I s, SLX 1 oa na ca, SLX 1 ob nn cb], [(0, flag 26 hb), (1, ⟨ty, fr, es, l⟩)], 3⟩ 53 dead [some false, some false, some false, some false])) = some (Ex.normal, [LV.v (V1.one (At.ptr 0 0)), LV.v (V1.one (At.int IntKind.i64 s)), LV.v (V1.one (At.slx 1 oa na ca)), LV.v (V1.one (At.slx 1 ob nn cb)), LV.v (V1.one (At.ptr 3 0))], [some { ty := 26, fr := (0, 0), es := 0, cells := [At.bool hb] }, some { ty := ty, fr := fr, es := es, cells := l }, some { ty := 95, fr := (0, 0), es := 0, cells := [At.int IntKind.i64 0, At.int IntKind.u64 0] }], [(decide (s > 120), false), (decide (s < 0), false), (decide (s < 0), false), (decide (s < 0), false)]) := by kernel_rfl
theorem dot_one_b (dead : Nat → Value) (hb : Bool) (s : Int) (oa na ca ob nn cb : Nat) (ty : TypeId) (fr : Nat × Nat) (es : Nat) (l : List At) (x y : Int) : projS [0,1,2,3,9,25,26] [0,1,3] (exec Try.prog S18 Zl 400 (.code (c1 (c1 (c2 (c2 (c2 (bodyF Try.prog 15))))))) (Kst.st ⟨[(0, A0), (1, I s), (2, SLX 1 oa na ca), (3, SLX 1 ob nn cb), (9, .v (.one (.ptr 3 0)))], [(0, flag 26 hb), (1, ⟨ty, fr, es, l⟩), (3, ⟨95, (0,0), 0, [.int .i64 x, .int .u64 y]⟩)], 4⟩ 53 dead [])) = some (Ex.normal, [LV.v (V1.one (At.ptr 0 0)), LV.v (V1.one (At.int IntKind.i64 s)), LV.v (V1.one (At.slx 1 oa na ca)), LV.v (V1.one (At.slx 1 ob nn cb)), LV.v (V1.one (At.ptr 3 0)), LV.v (V1.one (At.int IntKind.i64 (if 100 < if (nn : Int) < (na : Int) then (nn : Int) else (na : Int) then 100 else if (nn : Int) < (na : Int) then (nn : Int) else (na : Int)))), LV.v (V1.one (At.int IntKind.i64 0))], [some { ty := 26, fr := (0, 0), es := 0, cells := [At.bool hb] }, some { ty := ty, fr := fr, es := es, cells := l }, some { ty := 95, fr := (0, 0), es := 0, cells := [At.int IntKind.i64 x, At.int IntKind.u64 y] }], []) := by kernel_rfl
theorem dot_one_c (dead : Nat → Value) (hb : Bool) (s : Int) (oa na ca ob nn cb : Nat) (ty : TypeId) (fr : Nat × Nat) (es : Nat) (l : List At) (x y : Int) (mm i : Int) : projS [0,1,2,3,9,25,26] [0,1,3] (exec Try.prog S18 Zl 400 (.code (c1 (c1 (c2 (c1 (c2 (c2 (c2 (bodyF Try.prog 15))))))))) (Kst.st ⟨[(0, A0), (1, I s), (2, SLX 1 oa na ca), (3, SLX 1 ob nn cb), (9, .v (.one (.ptr 3 0))), (25, I mm), (26, I i)], [(0, flag 26 hb), (1, ⟨ty, fr, es, l⟩), (3, ⟨95, (0,0), 0, [.int .i64 x, .int .u64 y]⟩)], 4⟩ 53 dead [some true])) = some (Ex.normal, [LV.v (V1.one (At.ptr 0 0)), LV.v (V1.one (At.int IntKind.i64 s)), LV.v (V1.one (At.slx 1 oa na ca)), LV.v (V1.one (At.slx 1 ob nn cb)), LV.v (V1.one (At.ptr 3 0)), LV.v (V1.one (At.int IntKind.i64 mm)), LV.v (V1.one (At.int IntKind.i64 (wr IntKind.i64 (i + 1))))], [some { ty := 26, fr := (0, 0), es := 0, cells := [At.bool (hb || satH (intAt l (oa + i.toNat * 1)) || satH (intAt l (ob + i.toNat * 1)))] }, some { ty := ty, fr := fr, es := es, cells := l }, some { ty := 95, fr := (0, 0), es := 0, cells := [At.int IntKind.i64 (wHi (wVal x y + wVal (wHi (satV (intAt l (oa + i.toNat * 1)) * satV (intAt l (ob + i.toNat * 1)))) (wLo (satV (intAt l (oa + i.toNat * 1)) * satV (intAt l (ob + i.toNat * 1)))))), At.int IntKind.u64 (wLo (wVal x y + wVal (wHi (satV (intAt l (oa + i.toNat * 1)) * satV (intAt l (ob + i.toNat * 1)))) (wLo (satV (intAt l (oa + i.toNat * 1)) * satV (intAt l (ob + i.toNat * 1))))))] }], [(isI x, true), (isU y, true), (isI (wHi (satV (intAt l (oa + i.toNat * 1)) * satV (intAt l (ob + i.toNat * 1)))), true), (isU (wLo (satV (intAt l (oa + i.toNat * 1)) * satV (intAt l (ob + i.toNat * 1)))), true), (isW (wVal x y + wVal (wHi (satV (intAt l (oa + i.toNat * 1)) * satV (intAt l (ob + i.toNat * 1)))) (wLo (satV (intAt l (oa + i.toNat * 1)) * satV (intAt l (ob + i.toNat * 1))))), true), (isI (satV (intAt l (oa + i.toNat * 1))), true), (isI (satV (intAt l (ob + i.toNat * 1))), true), (isIntAt IntKind.i64 l (ob + i.toNat * 1), true), (decide (0 ≤ i) && decide (i < (nn : Int)), true), (isIntAt IntKind.i64 l (oa + i.toNat * 1), true), (decide (0 ≤ i) && decide (i < (na : Int)), true), (decide (i < mm), true)]) := by kernel_rfl
theorem dot_one_d (dead : Nat → Value) (hb : Bool) (s : Int) (oa na ca ob nn cb : Nat) (ty : TypeId) (fr : Nat × Nat) (es : Nat) (l : List At) (x y : Int) (mm i : Int) : projS [0,1,9] [0,1,3] (exec Try.prog S18 Zl 400 (.code (c1 (c1 (c2 (c1 (c2 (c2 (c2 (bodyF Try.prog 15))))))))) (Kst.st ⟨[(0, A0), (1, I s), (2, SLX 1 oa na ca), (3, SLX 1 ob nn cb), (9, .v (.one (.ptr 3 0))), (25, I mm), (26, I i)], [(0, flag 26 hb), (1, ⟨ty, fr, es, l⟩), (3, ⟨95, (0,0), 0, [.int .i64 x, .int .u64 y]⟩)], 4⟩ 53 dead [some false])) = some (Ex.exit 0, [LV.v (V1.one (At.ptr 0 0)), LV.v (V1.one (At.int IntKind.i64 s)), LV.v (V1.one (At.ptr 3 0))], [some { ty := 26, fr := (0, 0), es := 0, cells := [At.bool hb] }, some { ty := ty, fr := fr, es := es, cells := l }, some { ty := 95, fr := (0, 0), es := 0, cells := [At.int IntKind.i64 x, At.int IntKind.u64 y] }], [(decide (i < mm), false)]) := by kernel_rfl
theorem dot_one_e (dead : Nat → Value) (hb : Bool) (s : Int) (oa na ca ob nn cb : Nat) (ty : TypeId) (fr : Nat × Nat) (es : Nat) (l : List At) (x y : Int) : projS [8] [0,1] (exec Try.prog S18 Zl 400 (.code (c2 (c2 (c2 (c2 (bodyF Try.prog 15)))))) (Kst.st ⟨[(0, A0), (1, I s), (9, .v (.one (.ptr 3 0)))], [(0, flag 26 hb), (1, ⟨ty, fr, es, l⟩), (3, ⟨95, (0,0), 0, [.int .i64 x, .int .u64 y]⟩)], 4⟩ 53 dead [])) = some (Ex.ret, [LV.v (V1.one (At.int IntKind.i64 (rndS (wVal x y) s)))], [some { ty := 26, fr := (0, 0), es := 0, cells := [At.bool (hb || rndH (wVal x y) s)] }, some { ty := ty, fr := fr, es := es, cells := l }], [(isI x, true), (isU y, true)]) := by kernel_rfl
theorem dn_two_neg (hb : Bool) (s : Int) (oa na ca ob nn cb : Nat) (ty : TypeId) (fr : Nat × Nat) (es : Nat) (l : List At) (ty2 : TypeId) (fr2 : Nat × Nat) (es2 : Nat) (l2 : List At) : (runF Try.prog S18 Zl 2000 15 [A0, I s, SLX 1 oa na ca, SLX 2 ob nn cb] [(0, flag 26 hb), (1, ⟨ty, fr, es, l⟩), (2, ⟨ty2, fr2, es2, l2⟩)] 3 [some true, some true, some true, none]).map (fun r => (r.1, getM r.2.1 0, getM r.2.1 1, getM r.2.1 2, r.2.2.2)) = some (LV.v (V1.one (At.int IntKind.i64 (rndS (wVal 0 0) s))), some { ty := 26, fr := (0, 0), es := 0, cells := [At.bool (hb || rndH (wVal 0 0) s)] }, some { ty := ty, fr := fr, es := es, cells := l }, some { ty := ty2, fr := fr2, es := es2, cells := l2 }, [(isI 0, true), (isU 0, true), (decide (s < 0), true), (decide (s < 0), true), (decide (s < 0), true)]) := by kernel_rfl
theorem dn_two_big (hb : Bool) (s : Int) (oa na ca ob nn cb : Nat) (ty : TypeId) (fr : Nat × Nat) (es : Nat) (l : List At) (ty2 : TypeId) (fr2 : Nat × Nat) (es2 : Nat) (l2 : List At) : (runF Try.prog S18 Zl 2000 15 [A0, I s, SLX 1 oa na ca, SLX 2 ob nn cb] [(0, flag 26 hb), (1, ⟨ty, fr, es, l⟩), (2, ⟨ty2, fr2, es2, l2⟩)] 3 [some false, some false, some false, some true]).map (fun r => (r.1, getM r.2.1 0, getM r.2.1 1, getM r.2.1 2, r.2.2.2)) = some (LV.v (V1.one (At.int IntKind.i64 (rndS (wVal 0 0) s))), some { ty := 26, fr := (0, 0), es := 0, cells := [At.bool (hb || rndH (wVal 0 0) s)] }, some { ty := ty, fr := fr, es := es, cells := l }, some { ty := ty2, fr := fr2, es := es2, cells := l2 }, [(isI 0, true), (isU 0, true), (decide (s > 120), true), (decide (s < 0), false), (decide (s < 0), false), (decide (s < 0), false)]) := by kernel_rfl
theorem dn_one_neg (hb : Bool) (s : Int) (oa na ca ob nn cb : Nat) (ty : TypeId) (fr : Nat × Nat) (es : Nat) (l : List At) (ty2 : TypeId) (fr2 : Nat × Nat) (es2 : Nat) (l2 : List At) : (runF Try.prog S18 Zl 2000 15 [A0, I s, SLX 1 oa na ca, SLX 1 ob nn cb] [(0, flag 26 hb), (1, ⟨ty, fr, es, l⟩)] 3 [some true, some true, some true, none]).map (fun r => (r.1, getM r.2.1 0, getM r.2.1 1, getM r.2.1 2, r.2.2.2)) = some (LV.v (V1.one (At.int IntKind.i64 (rndS (wVal 0 0) s))), some { ty := 26, fr := (0, 0), es := 0, cells := [At.bool (hb || rndH (wVal 0 0) s)] }, some { ty := ty, fr := fr, es := es, cells := l }, none, [(isI 0, true), (isU 0, true), (decide (s < 0), true), (decide (s < 0), true), (decide (s < 0), true)]) := by kernel_rfl
theorem dn_one_big (hb : Bool) (s : Int) (oa na ca ob nn cb : Nat) (ty : TypeId) (fr : Nat × Nat) (es : Nat) (l : List At) (ty2 : TypeId) (fr2 : Nat × Nat) (es2 : Nat) (l2 : List At) : (runF Try.prog S18 Zl 2000 15 [A0, I s, SLX 1 oa na ca, SLX 1 ob nn cb] [(0, flag 26 hb), (1, ⟨ty, fr, es, l⟩)] 3 [some false, some false, some false, some true]).map (fun r => (r.1, getM r.2.1 0, getM r.2.1 1, getM r.2.1 2, r.2.2.2)) = some (LV.v (V1.one (At.int IntKind.i64 (rndS (wVal 0 0) s))), some { ty := 26, fr := (0, 0), es := 0, cells := [At.bool (hb || rndH (wVal 0 0) s)] }, some { ty := ty, fr := fr, es := es, cells := l }, none, [(isI 0, true), (isU 0, true), (decide (s > 120), true), (decide (s < 0), false), (decide (s < 0), false), (decide (s < 0), false)]) := by kernel_rfl
theorem dn_left_neg (hb : Bool) (s : Int) (oa na ca ob nn cb : Nat) (ty : TypeId) (fr : Nat × Nat) (es : Nat) (l : List At) (ty2 : TypeId) (fr2 : Nat × Nat) (es2 : Nat) (l2 : List At) : (runF Try.prog S18 Zl 2000 15 [A0, I s, SLX 1 oa na ca, NIL] [(0, flag 26 hb), (1, ⟨ty, fr, es, l⟩)] 2 [some true, some true, some true, none]).map (fun r => (r.1, getM r.2.1 0, getM r.2.1 1, getM r.2.1 2, r.2.2.2)) = some (LV.v (V1.one (At.int IntKind.i64 (rndS (wVal 0 0) s))), some { ty := 26, fr := (0, 0), es := 0, cells := [At.bool (hb || rndH (wVal 0 0) s)] }, some { ty := ty, fr := fr, es := es, cells := l }, none, [(isI 0, true), (isU 0, true), (decide (s < 0), true), (decide (s < 0), true), (decide (s < 0), true)]) := by kernel_rfl
theorem dn_left_big (hb : Bool) (s : Int) (oa na ca ob nn cb : Nat) (ty : TypeId) (fr : Nat × Nat) (es : Nat) (l : List At) (ty2 : TypeId) (fr2 : Nat × Nat) (es2 : Nat) (l2 : List At) : (runF Try.prog S18 Zl 2000 15 [A0, I s, SLX 1 oa na ca, NIL] [(0, flag 26 hb), (1, ⟨ty, fr, es, l⟩)] 2 [some false, some false, some false, some true]).map (fun r => (r.1, getM r.2.1 0, getM r.2.1 1, getM r.2.1 2, r.2.2.2)) = some (LV.v (V1.one (At.int IntKind.i64 (rndS (wVal 0 0) s))), some { ty := 26, fr := (0, 0), es := 0, cells := [At.bool (hb || rndH (wVal 0 0) s)] }, some { ty := ty, fr := fr, es := es, cells := l }, none, [(isI 0, true), (isU 0, true), (decide (s > 120), true), (decide (s < 0), false), (decide (s < 0), false), (decide (s < 0), false)]) := by kernel_rfl
theorem dn_left_in (hb : Bool) (s : Int) (oa na ca ob nn cb : Nat) (ty : TypeId) (fr : Nat × Nat) (es : Nat) (l : List At) (ty2 : TypeId) (fr2 : Nat × Nat) (es2 : Nat) (l2 : List At) : (runF Try.prog S18 Zl 2000 15 [A0, I s, SLX 1 oa na ca, NIL] [(0, flag 26 hb), (1, ⟨ty, fr, es, l⟩)] 2 [some false, some false, some false, some false, some false]).map (fun r => (r.1, getM r.2.1 0, getM r.2.1 1, getM r.2.1 2, r.2.2.2)) = some (LV.v (V1.one (At.int IntKind.i64 (rndS (wVal 0 0) s))), some { ty := 26, fr := (0, 0), es := 0, cells := [At.bool (hb || rndH (wVal 0 0) s)] }, some { ty := ty, fr := fr, es := es, cells := l }, some { ty := 95, fr := (0, 0), es := 0, cells := [At.int IntKind.i64 0, At.int IntKind.u64 0] }, [(isI 0, true), (isU 0, true), (decide (0 < if 100 < if 0 < (na : Int) then 0 else (na : Int) then 100 else if 0 < (na : Int) then 0 else (na : Int)), false), (decide (s > 120), false), (decide (s < 0), false), (decide (s < 0), false), (decide (s < 0), false)]) := by kernel_rfl
theorem dn_right_neg (hb : Bool) (s : Int) (oa na ca ob nn cb : Nat) (ty : TypeId) (fr : Nat × Nat) (es : Nat) (l : List At) (ty2 : TypeId) (fr2 : Nat × Nat) (es2 : Nat) (l2 : List At) : (runF Try.prog S18 Zl 2000 15 [A0, I s, NIL, SLX 1 ob nn cb] [(0, flag 26 hb), (1, ⟨ty, fr, es, l⟩)] 2 [some true, some true, some true, none]).map (fun r => (r.1, getM r.2.1 0, getM r.2.1 1, getM r.2.1 2, r.2.2.2)) = some (LV.v (V1.one (At.int IntKind.i64 (rndS (wVal 0 0) s))), some { ty := 26, fr := (0, 0), es := 0, cells := [At.bool (hb || rndH (wVal 0 0) s)] }, some { ty := ty, fr := fr, es := es, cells := l }, none, [(isI 0, true), (isU 0, true), (decide (s < 0), true), (decide (s < 0), true), (decide (s < 0), true)]) := by kernel_rfl
theorem dn_right_big (hb : Bool) (s : Int) (oa na ca ob nn cb : Nat) (ty : TypeId) (fr : Nat × Nat) (es : Nat) (l : List At) (ty2 : TypeId) (fr2 : Nat × Nat) (es2 : Nat) (l2 : List At) : (runF Try.prog S18 Zl 2000 15 [A0, I s, NIL, SLX 1 ob nn cb] [(0, flag 26 hb), (1, ⟨ty, fr, es, l⟩)] 2 [some false, some false, some false, some true]).map (fun r => (r.1, getM r.2.1 0, getM r.2.1 1, getM r.2.1 2, r.2.2.2)) = some (LV.v (V1.one (At.int IntKind.i64 (rndS (wVal 0 0) s))), some { ty := 26, fr := (0, 0), es := 0, cells := [At.bool (hb || rndH (wVal 0 0) s)] }, some { ty := ty, fr := fr, es := es, cells := l }, none, [(isI 0, true), (isU 0, true), (decide (s > 120), true), (decide (s < 0), false), (decide (s < 0), false), (decide (s < 0), false)]) := by kernel_rfl
theorem dn_right_in (hb : Bool) (s : Int) (oa na ca ob nn cb : Nat) (ty : TypeId) (fr : Nat × Nat) (es : Nat) (l : List At) (ty2 : TypeId) (fr2 : Nat × Nat) (es2 : Nat) (l2 : List At) : (runF Try.prog S18 Zl 2000 15 [A0, I s, NIL, SLX 1 ob nn cb] [(0, flag 26 hb), (1, ⟨ty, fr, es, l⟩)] 2 [some false, some false, some false, some false, some false]).map (fun r => (r.1, getM r.2.1 0, getM r.2.1 1, getM r.2.1 2, r.2.2.2)) = some (LV.v (V1.one (At.int IntKind.i64 (rndS (wVal 0 0) s))), some { ty := 26, fr := (0, 0), es := 0, cells := [At.bool (hb || rndH (wVal 0 0) s)] }, some { ty := ty, fr := fr, es := es, cells := l }, some { ty := 95, fr := (0, 0), es := 0, cells := [At.int IntKind.i64 0, At.int IntKind.u64 0] }, [(isI 0, true), (isU 0, true), (decide (0 < if 100 < if (nn : Int) < 0 then (nn : Int) else 0 then 100 else if (nn : Int) < 0 then (nn : Int) else 0), false), (decide (s > 120), false), (decide (s < 0), false), (decide (s < 0), false), (decide (s < 0), false)]) := by kernel_rfl
theorem dn_none_neg (hb : Bool) (s : Int) (oa na ca ob nn cb : Nat) (ty : TypeId) (fr : Nat × Nat) (es : Nat) (l : List At) (ty2 : TypeId) (fr2 : Nat × Nat) (es2 : Nat) (l2 : List At) : (runF Try.prog S18 Zl 2000 15 [A0, I s, NIL, NIL] [(0, flag 26 hb)] 1 [some true, some true, some true, none]).map (fun r => (r.1, getM r.2.1 0, getM r.2.1 1, getM r.2.1 2, r.2.2.2)) = some (LV.v (V1.one (At.int IntKind.i64 (rndS (wVal 0 0) s))), some { ty := 26, fr := (0, 0), es := 0, cells := [At.bool (hb || rndH (wVal 0 0) s)] }, none, none, [(isI 0, true), (isU 0, true), (decide (s < 0), true), (decide (s < 0), true), (decide (s < 0), true)]) := by kernel_rfl
theorem dn_none_big (hb : Bool) (s : Int) (oa na ca ob nn cb : Nat) (ty : TypeId) (fr : Nat × Nat) (es : Nat) (l : List At) (ty2 : TypeId) (fr2 : Nat × Nat) (es2 : Nat) (l2 : List At) : (runF Try.prog S18 Zl 2000 15 [A0, I s, NIL, NIL] [(0, flag 26 hb)] 1 [some false, some false, some false, some true]).map (fun r => (r.1, getM r.2.1 0, getM r.2.1 1, getM r.2.1 2, r.2.2.2)) = some (LV.v (V1.one (At.int IntKind.i64 (rndS (wVal 0 0) s))), some { ty := 26, fr := (0, 0), es := 0, cells := [At.bool (hb || rndH (wVal 0 0) s)] }, none, none, [(isI 0, true), (isU 0, true), (decide (s > 120), true), (decide (s < 0), false), (decide (s < 0), false), (decide (s < 0), false)]) := by kernel_rfl
theorem dn_none_in (hb : Bool) (s : Int) (oa na ca ob nn cb : Nat) (ty : TypeId) (fr : Nat × Nat) (es : Nat) (l : List At) (ty2 : TypeId) (fr2 : Nat × Nat) (es2 : Nat) (l2 : List At) : (runF Try.prog S18 Zl 2000 15 [A0, I s, NIL, NIL] [(0, flag 26 hb)] 1 [some false, some false, some false, some false, some false]).map (fun r => (r.1, getM r.2.1 0, getM r.2.1 1, getM r.2.1 2, r.2.2.2)) = some (LV.v (V1.one (At.int IntKind.i64 (rndS (wVal 0 0) s))), some { ty := 26, fr := (0, 0), es := 0, cells := [At.bool (hb || rndH (wVal 0 0) s)] }, some { ty := 95, fr := (0, 0), es := 0, cells := [At.int IntKind.i64 0, At.int IntKind.u64 0] }, none, [(isI 0, true), (isU 0, true), (decide (0 < if 100 < if 0 < 0 then 0 else 0 then 100 else if 0 < 0 then 0 else 0), false), (decide (s > 120), false), (decide (s < 0), false), (decide (s < 0), false), (decide (s < 0), false)]) := by kernel_rfl

/-- The products' sum; is one of the numbers out of bounds? -/
def dotS : List Int → List Int → Int
  | a :: l, b :: m => satV a * satV b + dotS l m
  | _, _ => 0
def dotFl : List Int → List Int → Bool
  | a :: l, b :: m => satH a || (satH b || dotFl l m)
  | _, _ => false
theorem dotS_nilr (l : List Int) : dotS l [] = 0 := by cases l <;> rfl
theorem dotFl_nilr (l : List Int) : dotFl l [] = false := by cases l <;> rfl
theorem dotS_app : ∀ (l m : List Int) (a b : Int), l.length = m.length → dotS (l ++ [a]) (m ++ [b]) = dotS l m + satV a * satV b
  | [], [], a, b, _ => by simp [dotS]
  | x :: l, y :: m, a, b, h => by
    have := dotS_app l m a b (by simpa using h)
    simp only [List.cons_append, dotS, this]; omega
theorem dotFl_app : ∀ (l m : List Int) (a b : Int), l.length = m.length → dotFl (l ++ [a]) (m ++ [b]) = (dotFl l m || (satH a || satH b))
  | [], [], a, b, _ => by simp [dotFl]
  | x :: l, y :: m, a, b, h => by
    have := dotFl_app l m a b (by simpa using h)
    simp only [List.cons_append, dotFl, this, Bool.or_assoc]
theorem dot_min : ∀ (xs ys : List Int) (n k : Nat), n ≤ k → (n = k ∨ xs.length ≤ n ∨ ys.length ≤ n) → dotS (xs.take n) (ys.take n) = dotS (xs.take k) (ys.take k) ∧ dotFl (xs.take n) (ys.take n) = dotFl (xs.take k) (ys.take k)
  | [], ys, n, k, _, _ => by simp [dotS, dotFl]
  | x :: xs, [], n, k, _, _ => by simp [dotS_nilr, dotFl_nilr]
  | x :: xs, y :: ys, 0, k, _, h => by
    have : k = 0 := by simp at h; omega
    subst this; exact ⟨rfl, rfl⟩
  | x :: xs, y :: ys, n + 1, 0, h, _ => by omega
  | x :: xs, y :: ys, n + 1, k + 1, h, h' => by
    have := dot_min xs ys n k (by omega) (by simp at h'; omega)
    refine ⟨?_, ?_⟩ <;> simp only [List.take_succ_cons, dotS, dotFl, this.1, this.2]
theorem dotS_bd : ∀ (l m : List Int), -(l.length * 1329227995784915872903807060280344576 : Int) ≤ dotS l m ∧ dotS l m ≤ l.length * 1329227995784915872903807060280344576
  | [], m => by simp [dotS]
  | a :: l, [] => by
    rw [dotS_nilr]
    have : (0 : Int) ≤ ((a :: l).length : Int) * 1329227995784915872903807060280344576 := Int.mul_nonneg (by omega) (by decide)
    omega
  | a :: l, b :: m => by
    have h1 := dotS_bd l m
    have h2 := satsat a b
    simp only [dotS, List.length_cons]
    push_cast
    omega
theorem dot_bds {D p : Int} {i m : Nat} (hi : i < m) (hm : m ≤ 100) (b0 : -((i : Int) * 1329227995784915872903807060280344576) ≤ D ∧ D ≤ i * 1329227995784915872903807060280344576) (b1 : -1329227995784915872903807060280344576 ≤ p ∧ p ≤ 1329227995784915872903807060280344576) :
    (-170141183460469231731687303715884105728 ≤ D ∧ D < 170141183460469231731687303715884105728) ∧ (-170141183460469231731687303715884105728 ≤ p ∧ p < 170141183460469231731687303715884105728) ∧ (-170141183460469231731687303715884105728 ≤ D + p ∧ D + p < 170141183460469231731687303715884105728) := by omega
theorem dot_bdn {D : Int} {n k : Nat} (b0 : -(((min 100 n : Nat) : Int) * 1329227995784915872903807060280344576) ≤ D ∧ D ≤ ((min 100 n : Nat) : Int) * 1329227995784915872903807060280344576) :
    -170141183460469231731687303715884105728 ≤ D ∧ D < 170141183460469231731687303715884105728 := by omega

def dotV (s : Int) (xs ys : List Int) : Int := rndS (dotS (xs.take 100) (ys.take 100)) s
def dotH (s : Int) (xs ys : List Int) : Bool := dotFl (xs.take 100) (ys.take 100) || rndH (dotS (xs.take 100) (ys.take 100)) s
def fdotS : List AV → Bool → Option (LV × Bool × List (Bool × Bool))
  | [.pl (.v (.one (.int .i64 s))), .ints xs, .ints ys], hb => some (I (dotV s xs ys), hb || dotH s xs ys, [])
  | _, _ => none

theorem dot_nil {s : Int} {xs ys : List Int} (h : xs = [] ∨ ys = []) (hb : Bool) : rndS (wVal 0 0) s = dotV s xs ys ∧ (hb || rndH (wVal 0 0) s) = (hb || dotH s xs ys) := by
  have e : wVal 0 0 = 0 := rfl
  unfold dotV dotH
  rcases h with rfl | rfl
  · simp [dotS, dotFl, e]
  · simp [dotS_nilr, dotFl_nilr, e]
theorem dot_out {s : Int} (h : s < 0 ∨ s > 120) (xs ys : List Int) (hb : Bool) : rndS (wVal 0 0) s = dotV s xs ys ∧ (hb || rndH (wVal 0 0) s) = (hb || dotH s xs ys) := by
  unfold dotV dotH rndS rndH
  rcases h with h | h
  · simp [h]
  · have : ¬ s < 0 := by omega
    simp [h, this]

section
variable {P : Program} {S : FuncId → Option SumK} {z : Md}
theorem lcl3 (hs : Sound P S) {n : Nat} {f : FuncId} {args : List LV} {m m' : Mem} {nb : Nat} {dec : List (Option Bool)} {v : LV} {b0 b1 b2 : Option Blk} {cs : List (Bool × Bool)}
    (hrun : (runF P S z n f args m nb dec).map (fun r => (r.1, getM r.2.1 0, getM r.2.1 1, getM r.2.1 2, r.2.2.2)) = some (v, b0, b1, b2, cs))
    (hg : ∀ i b, getM m' i = some b → (i = 0 ∧ b0 = some b ∨ i = 1 ∧ b1 = some b ∨ i = 2 ∧ b2 = some b) ∧ i < nb ∧ okL (below nb) b.cells = true) (hc : ∀ c ∈ cs, c.1 = c.2) (hm : memOKb nb m = true) (ha : ∀ u ∈ args, u.ok (below nb) = true) (hv : v.ok noP = true)
    (E : Env) (w : World) (hrel : Rel E (getM m) w) : Calls P f (args.map (LV.den E)).toArray w fun e w' => e = .returned (v.den E0) ∧ Lcl E m m' w w' := by
  cases hq : runF P S z n f args m nb dec with
  | none => rw [hq] at hrun; cases hrun
  | some q =>
    obtain ⟨v', m2, nb', cs'⟩ := q
    rw [hq] at hrun
    simp only [Option.map_some, Option.some.injEq, Prod.mk.injEq] at hrun
    obtain ⟨rfl, e0, e1, e2, rfl⟩ := hrun
    refine lcl_of_run hs hq (fun i b hib => ?_) hc hm ha hv E w hrel
    obtain ⟨h, h2⟩ := hg i b hib
    refine ⟨?_, h2⟩
    rcases h with ⟨rfl, h⟩ | ⟨rfl, h⟩ | ⟨rfl, h⟩
    · rw [e0, h]
    · rw [e1, h]
    · rw [e2, h]
end
theorem cs_neg {s : Int} (h : s < 0) : ∀ c ∈ [(isI 0, true), (isU 0, true), (decide (s < 0), true), (decide (s < 0), true), (decide (s < 0), true)], c.1 = c.2 := by
  have h1 : isI 0 = true := by decide
  have h2 : isU 0 = true := by decide
  rw [h1, h2, decide_eq_true h]; simp
theorem cs_big {s : Int} (h : s > 120) : ∀ c ∈ [(isI 0, true), (isU 0, true), (decide (s > 120), true), (decide (s < 0), false), (decide (s < 0), false), (decide (s < 0), false)], c.1 = c.2 := by
  have h1 : isI 0 = true := by decide
  have h2 : isU 0 = true := by decide
  rw [h1, h2, decide_eq_true h, decide_eq_false (show ¬ s < 0 by omega)]; simp
theorem cs_in {s : Int} {b : Bool} (hb : b = false) (h0 : 0 ≤ s) (h : s ≤ 120) : ∀ c ∈ [(isI 0, true), (isU 0, true), (b, false), (decide (s > 120), false), (decide (s < 0), false), (decide (s < 0), false), (decide (s < 0), false)], c.1 = c.2 := by
  have h1 : isI 0 = true := by decide
  have h2 : isU 0 = true := by decide
  rw [h1, h2, hb, decide_eq_false (show ¬ s > 120 by omega), decide_eq_false (show ¬ s < 0 by omega)]; simp
theorem memOK4 {nb : Nat} {b0 b1 b2 b3 : Blk} (hnb : 4 ≤ nb) (h0 : okL (below nb) b0.cells = true) (h1 : okL (below nb) b1.cells = true) (h2 : okL (below nb) b2.cells = true) (h3 : okL (below nb) b3.cells = true) : memOKb nb [(0, b0), (1, b1), (2, b2), (3, b3)] = true := by
  have e0 : Nat.blt 0 nb = true := by rw [nblt]; simp; omega
  have e1 : Nat.blt 1 nb = true := by rw [nblt]; simp; omega
  have e2 : Nat.blt 2 nb = true := by rw [nblt]; simp; omega
  have e3 : Nat.blt 3 nb = true := by rw [nblt]; simp; omega
  simp only [memOKb, e0, e1, e2, e3, h0, h1, h2, h3]
  rfl
theorem memOK3' {nb : Nat} {b0 b1 b3 : Blk} (hnb : 4 ≤ nb) (h0 : okL (below nb) b0.cells = true) (h1 : okL (below nb) b1.cells = true) (h3 : okL (below nb) b3.cells = true) : memOKb nb [(0, b0), (1, b1), (3, b3)] = true := by
  have e0 : Nat.blt 0 nb = true := by rw [nblt]; simp; omega
  have e1 : Nat.blt 1 nb = true := by rw [nblt]; simp; omega
  have e3 : Nat.blt 3 nb = true := by rw [nblt]; simp; omega
  simp only [memOKb, e0, e1, e3, h0, h1, h3]
  rfl
theorem memOK1 {nb : Nat} {b0 : Blk} (hnb : 1 ≤ nb) (h0 : okL (below nb) b0.cells = true) : memOKb nb [(0, b0)] = true := by
  have e0 : Nat.blt 0 nb = true := by rw [nblt]; simp; omega
  simp only [memOKb, e0, h0]
  rfl
def P3 : LV := .v (.one (.ptr 3 0))
noncomputable def doBd : Code := c2 (c2 (c2 (bodyF Try.prog 15)))

def dAtwo (k1 k2 : Blk) (s : Int) (oa na ca ob nn cb : Nat) (h : Bool) (v mm i : Int) : Kst := ⟨[(0, A0), (1, I s), (2, SLX 1 oa na ca), (3, SLX 2 ob nn cb), (9, P3), (25, I mm), (26, I i)], [(0, flag 26 h), (1, k1), (2, k2), (3, wB v)], 4⟩
def dBtwo (k1 k2 : Blk) (s : Int) (h : Bool) (v : Int) : Kst := ⟨[(0, A0), (1, I s), (9, P3)], [(0, flag 26 h), (1, k1), (2, k2), (3, wB v)], 4⟩
theorem dSteptwo (k1 k2 : Blk) (s : Int) (oa na ca ob nn cb : Nat) (xs ys : List Int) (hx : SlAt 1 k1 oa na xs) (hy : SlAt 1 k2 ob nn ys) (hb : Bool) (m : Nat) (hm : m ≤ 100) (hma : m ≤ na) (hmb : m ≤ nn) (i : Nat) (hi : i < m) :
    To Try.prog 53 (c1 (c1 (c2 (c1 doBd)))) (dAtwo k1 k2 s oa na ca ob nn cb (hb || dotFl (xs.take i) (ys.take i)) (dotS (xs.take i) (ys.take i)) m i) .normal (dAtwo k1 k2 s oa na ca ob nn cb (hb || dotFl (xs.take (i + 1)) (ys.take (i + 1))) (dotS (xs.take (i + 1)) (ys.take (i + 1))) m ((i : Int) + 1)) := by
  obtain ⟨hlen, hat, hok⟩ := hx
  obtain ⟨hlen2, hat2, hok2⟩ := hy
  have ix : i < xs.length := by omega
  have iy : i < ys.length := by omega
  have hx := intAt_of (hat i ix)
  have hy := intAt_of (hat2 i iy)
  have b0 := dotS_bd (xs.take i) (ys.take i)
  rw [List.length_take] at b0
  have b1 := satsat xs[i] ys[i]
  have hmi : ((min i xs.length : Nat) : Int) = i := by omega
  rw [hmi] at b0
  have e0 : (xs.take i).length = (ys.take i).length := by simp only [List.length_take]; omega
  have e1 : dotS (xs.take (i + 1)) (ys.take (i + 1)) = dotS (xs.take i) (ys.take i) + satV xs[i] * satV ys[i] := by rw [take_snoc xs i ix, take_snoc ys i iy, dotS_app _ _ _ _ e0]
  have e2 : (hb || dotFl (xs.take (i + 1)) (ys.take (i + 1))) = (((hb || dotFl (xs.take i) (ys.take i)) || satH xs[i]) || satH ys[i]) := by rw [take_snoc xs i ix, take_snoc ys i iy, dotFl_app _ _ _ _ e0]; simp [Bool.or_assoc]
  have e3 : ((i : Int)).toNat * 1 = i := by simp
  have e4 : wr .i64 ((i : Int) + 1) = (i : Int) + 1 := w64_in (by omega) (by omega)
  have hI := isI_sat xs[i]
  have hI2 := isI_sat ys[i]
  obtain ⟨ty, fr, es, l⟩ := k1
  obtain ⟨ty2, fr2, es2, l2⟩ := k2
  rw [e1, e2]
  generalize dotS (xs.take i) (ys.take i) = D at *
  obtain ⟨⟨bD0, bD1⟩, ⟨bp0, bp1⟩, bs0, bs1⟩ := dot_bds hi hm b0 b1
  obtain ⟨i2a, i2b⟩ := wHi_inI D bD0 bD1
  obtain ⟨l2a, l2b⟩ := wLo_in D
  obtain ⟨i3a, i3b⟩ := wHi_inI (satV xs[i] * satV ys[i]) bp0 bp1
  obtain ⟨l3a, l3b⟩ := wLo_in (satV xs[i] * satV ys[i])
  have j0 : (0 : Int) ≤ (i : Int) := Int.natCast_nonneg i
  have j1 : (i : Int) < (na : Int) := Int.ofNat_lt.2 (Nat.lt_of_lt_of_le hi hma)
  have j2 : (i : Int) < (nn : Int) := Int.ofNat_lt.2 (Nat.lt_of_lt_of_le hi hmb)
  have j3 : (i : Int) < (m : Int) := Int.ofNat_lt.2 hi
  refine To.run (z := Zl) sound18 (slots := [0, 1, 2, 3, 9, 25, 26]) (blks := [0, 1, 2, 3]) (vs := [A0, I s, SLX 1 oa na ca, SLX 2 ob nn cb, P3, I m, I ((i : Int) + 1)])
    (bs := [flag 26 (((hb || dotFl (xs.take i) (ys.take i)) || satH xs[i]) || satH ys[i]), ⟨ty, fr, es, l⟩, ⟨ty2, fr2, es2, l2⟩, wB (D + satV xs[i] * satV ys[i])]) (nbB := 4)
    (fun dead => dot_two_c dead (hb || dotFl (xs.take i) (ys.take i)) s oa na ca ob nn cb ty fr es l ty2 fr2 es2 l2 (wHi D) (wLo D) m i) rfl (by rw [e4]; rfl) (by rw [e3, hx.1, hy.1]; simp only [wVal_mk]; rfl) ?_ (kst_ok rfl (memOK4 (Nat.le_refl _) rfl (okL_mono noP_below hok) (okL_mono noP_below hok2) rfl)) (Nat.le_refl _)
  rw [e3, hx.1, hx.2, hy.1, hy.2, hI, hI2]
  simp only [wVal_mk, all_tt, isI_iff, isU_iff, isW_iff, Bool.and_eq_true, decide_eq_true_eq]
  repeat' apply And.intro
  all_goals first | exact ae_nil | exact True.intro | assumption
theorem dEndtwo (k1 k2 : Blk) (s : Int) (oa na ca ob nn cb : Nat) (hok : okL noP k1.cells = true) (hok2 : okL noP k2.cells = true) (h : Bool) (v : Int) (m : Nat) : To Try.prog 53 (c1 (c1 (c2 (c1 doBd)))) (dAtwo k1 k2 s oa na ca ob nn cb h v m m) (.exit 0) (dBtwo k1 k2 s h v) := by
  obtain ⟨ty, fr, es, l⟩ := k1
  obtain ⟨ty2, fr2, es2, l2⟩ := k2
  refine To.exec (z := Zl) sound18 (slots := [0, 1, 9]) (blks := [0, 1, 2, 3]) (vs := [A0, I s, P3]) (bs := [flag 26 h, ⟨ty, fr, es, l⟩, ⟨ty2, fr2, es2, l2⟩, wB v]) (nbB := 4) (fun dead => dot_two_d dead h s oa na ca ob nn cb ty fr es l ty2 fr2 es2 l2 (wHi v) (wLo v) m m) ?_ (kst_ok rfl (memOK4 (Nat.le_refl _) rfl (okL_mono noP_below hok) (okL_mono noP_below hok2) rfl)) (Nat.le_refl _)
  simp
theorem dRdtwo (k1 k2 : Blk) (s : Int) (oa na ca ob nn cb : Nat) (xs ys : List Int) (hx : SlAt 1 k1 oa na xs) (hy : SlAt 1 k2 ob nn ys) (hb : Bool) (m : Nat) (hm : m ≤ 100) (hma : m ≤ na) (hmb : m ≤ nn) : ∀ (j i : Nat), i + j = m →
    Rd Try.prog 53 (c1 (c1 (c2 (c1 doBd)))) (j + 1) (dAtwo k1 k2 s oa na ca ob nn cb (hb || dotFl (xs.take i) (ys.take i)) (dotS (xs.take i) (ys.take i)) m i) (.exit 0) (dBtwo k1 k2 s (hb || dotFl (xs.take m) (ys.take m)) (dotS (xs.take m) (ys.take m)))
  | 0, i, h => by
    have hi : i = m := by omega
    subst hi
    exact Rd.last (by simp) (dEndtwo k1 k2 s oa na ca ob nn cb hx.2.2 hy.2.2 _ _ i)
  | j + 1, i, h => Rd.next (dSteptwo k1 k2 s oa na ca ob nn cb xs ys hx hy hb m hm hma hmb i (by omega)) (dRdtwo k1 k2 s oa na ca ob nn cb xs ys hx hy hb m hm hma hmb j (i + 1) (by omega))

theorem dIntwo (k1 k2 : Blk) (s : Int) (h0 : 0 ≤ s) (h1 : s ≤ 120) (oa na ca ob nn cb : Nat) (xs ys : List Int) (hx : SlAt 1 k1 oa na xs) (hy : SlAt 1 k2 ob nn ys) (hb : Bool) (E : Env) (w : World) (hrel : Rel E (getM [(0, flag 26 hb), (1, k1), (2, k2)]) w) :
    Calls Try.prog 15 ((A0 :: ([I s] ++ [SLX 1 oa na ca, SLX 2 ob nn cb])).map (LV.den E)).toArray w fun e w' => e = .returned ((I (dotV s xs ys)).den E0) ∧ Lcl E [(0, flag 26 hb), (1, k1), (2, k2)] [(0, flag 26 (hb || dotH s xs ys)), (1, k1), (2, k2)] w w' := by
  have hxl : xs.length = na := by have := hx.1; omega
  have hyl : ys.length = nn := by have := hy.1; omega
  have hok := hx.2.2
  have hok2 := hy.2.2
  have hm : min (min na nn) 100 ≤ 100 := by omega
  have hR := dRdtwo k1 k2 s oa na ca ob nn cb xs ys hx hy hb (min (min na nn) 100) (by omega) (by omega) (by omega) (min (min na nn) 100) 0 (by omega)
  have hmin := dot_min xs ys (min (min na nn) 100) 100 (by omega) (by omega)
  rw [hmin.1, hmin.2] at hR
  have eI : (if (100 : Int) < if (nn : Int) < (na : Int) then (nn : Int) else (na : Int) then 100 else if (nn : Int) < (na : Int) then (nn : Int) else (na : Int)) = ((min (min na nn) 100 : Nat) : Int) := by (repeat' split) <;> omega
  generalize min (min na nn) 100 = m at *
  have b0 := dotS_bd (xs.take 100) (ys.take 100)
  rw [List.length_take] at b0
  have hV : dotV s xs ys = rndS (dotS (xs.take 100) (ys.take 100)) s := rfl
  have hH : (hb || dotH s xs ys) = ((hb || dotFl (xs.take 100) (ys.take 100)) || rndH (dotS (xs.take 100) (ys.take 100)) s) := by unfold dotH; rw [Bool.or_assoc]
  rw [hV, hH]
  generalize dotS (xs.take 100) (ys.take 100) = D at *
  obtain ⟨bD0, bD1⟩ := dot_bdn (k := 0) b0
  have hi2 := wHi_inI D bD0 bD1
  have hl2 := wLo_in D
  have hs1 : decide (s > 120) = false := decide_eq_false (by omega)
  have hs0 : decide (s < 0) = false := decide_eq_false (by omega)
  obtain ⟨ty, fr, es, l⟩ := k1
  obtain ⟨ty2, fr2, es2, l2⟩ := k2
  refine lcl_of_To (c := bodyF Try.prog 15) (e := .ret) (nb := 3) (B := ⟨[(8, I (rndS D s))], [(0, flag 26 ((hb || dotFl (xs.take 100) (ys.take 100)) || rndH D s)), (1, ⟨ty, fr, es, l⟩), (2, ⟨ty2, fr2, es2, l2⟩)], 4⟩) Try.func15 (by kernel_rfl) (Nat.le_of_ble_eq_true (by kernel_rfl)) (Nat.le_of_ble_eq_true (by kernel_rfl))
    (fun u hu => ?_) (memOK3 (Nat.le_refl _) rfl (okL_mono noP_below hok) (okL_mono noP_below hok2)) ?_ (.inr rfl) (fun dead => by kernel_rfl) rfl (fun i b hib => ?_) E w hrel
  · simp only [List.cons_append, List.nil_append, List.mem_cons, List.not_mem_nil, or_false] at hu
    rcases hu with rfl | rfl | rfl | rfl <;> rfl
  · refine To.spineR (z := Zl) sound18 (k := 3) (slots := [0, 1, 2, 3, 9]) (blks := [0, 1, 2, 3]) (vs := [A0, I s, SLX 1 oa na ca, SLX 2 ob nn cb, P3]) (bs := [flag 26 hb, ⟨ty, fr, es, l⟩, ⟨ty2, fr2, es2, l2⟩, wB 0]) (nbB := 4) (by kernel_rfl) (fun dead => dot_two_a dead hb s oa na ca ob nn cb ty fr es l ty2 fr2 es2 l2) rfl rfl rfl (by rw [hs1, hs0]; simp) (kst_ok rfl (memOK4 (Nat.le_refl _) rfl (okL_mono noP_below hok) (okL_mono noP_below hok2) rfl)) (Nat.le_succ 3) ?_
    refine To.seq (by kernel_rfl) (To.seq (by kernel_rfl) (To.run (z := Zl) sound18 (slots := [0, 1, 2, 3, 9, 25, 26]) (blks := [0, 1, 2, 3]) (vs := [A0, I s, SLX 1 oa na ca, SLX 2 ob nn cb, P3, I m, I 0]) (bs := [flag 26 hb, ⟨ty, fr, es, l⟩, ⟨ty2, fr2, es2, l2⟩, wB 0]) (nbB := 4) (fun dead => dot_two_b dead hb s oa na ca ob nn cb ty fr es l ty2 fr2 es2 l2 0 0) rfl (by simp only [eI]; rfl) rfl ae_nil (kst_ok rfl (memOK4 (Nat.le_refl _) rfl (okL_mono noP_below hok) (okL_mono noP_below hok2) rfl)) (Nat.le_refl _))
      (To.block (id := 0) (by kernel_rfl) (To.loop (m := m + 1) (by kernel_rfl) ?_) (.inl rfl))) (C := _) (B := dBtwo ⟨ty, fr, es, l⟩ ⟨ty2, fr2, es2, l2⟩ s (hb || dotFl (xs.take 100) (ys.take 100)) D) ?_
    · simp only [List.take_zero, dotFl, Bool.or_false, dotS] at hR
      exact hR
    · refine To.run (z := Zl) sound18 (slots := [8]) (blks := [0, 1, 2]) (vs := [I (rndS D s)]) (bs := [flag 26 ((hb || dotFl (xs.take 100) (ys.take 100)) || rndH D s), ⟨ty, fr, es, l⟩, ⟨ty2, fr2, es2, l2⟩]) (nbB := 4) (fun dead => dot_two_e dead (hb || dotFl (xs.take 100) (ys.take 100)) s oa na ca ob nn cb ty fr es l ty2 fr2 es2 l2 (wHi D) (wLo D)) rfl ?_ ?_ ?_ (kst_ok rfl (memOK3 (Nat.le_of_ble_eq_true rfl) rfl (okL_mono noP_below hok) (okL_mono noP_below hok2))) (Nat.le_refl _)
      · rw [wVal_mk]; rfl
      · rw [wVal_mk]; rfl
      · simp only [all_tt, isI_iff, isU_iff]
        exact ⟨hi2, hl2, ae_nil⟩
  · rcases get3 hib with ⟨rfl, rfl⟩ | ⟨rfl, rfl⟩ | ⟨rfl, rfl⟩
    · exact ⟨rfl, by decide, rfl⟩
    · exact ⟨rfl, by decide, okL_mono noP_below hok⟩
    · exact ⟨rfl, by decide, okL_mono noP_below hok2⟩

def dAone (k1 : Blk) (s : Int) (oa na ca ob nn cb : Nat) (h : Bool) (v mm i : Int) : Kst := ⟨[(0, A0), (1, I s), (2, SLX 1 oa na ca), (3, SLX 1 ob nn cb), (9, P3), (25, I mm), (26, I i)], [(0, flag 26 h), (1, k1), (3, wB v)], 4⟩
def dBone (k1 : Blk) (s : Int) (h : Bool) (v : Int) : Kst := ⟨[(0, A0), (1, I s), (9, P3)], [(0, flag 26 h), (1, k1), (3, wB v)], 4⟩
theorem dStepone (k1 : Blk) (s : Int) (oa na ca ob nn cb : Nat) (xs ys : List Int) (hx : SlAt 1 k1 oa na xs) (hy : SlAt 1 k1 ob nn ys) (hb : Bool) (m : Nat) (hm : m ≤ 100) (hma : m ≤ na) (hmb : m ≤ nn) (i : Nat) (hi : i < m) :
    To Try.prog 53 (c1 (c1 (c2 (c1 doBd)))) (dAone k1 s oa na ca ob nn cb (hb || dotFl (xs.take i) (ys.take i)) (dotS (xs.take i) (ys.take i)) m i) .normal (dAone k1 s oa na ca ob nn cb (hb || dotFl (xs.take (i + 1)) (ys.take (i + 1))) (dotS (xs.take (i + 1)) (ys.take (i + 1))) m ((i : Int) + 1)) := by
  obtain ⟨hlen, hat, hok⟩ := hx
  obtain ⟨hlen2, hat2, -⟩ := hy
  have ix : i < xs.length := by omega
  have iy : i < ys.length := by omega
  have hx := intAt_of (hat i ix)
  have hy := intAt_of (hat2 i iy)
  have b0 := dotS_bd (xs.take i) (ys.take i)
  rw [List.length_take] at b0
  have b1 := satsat xs[i] ys[i]
  have hmi : ((min i xs.length : Nat) : Int) = i := by omega
  rw [hmi] at b0
  have e0 : (xs.take i).length = (ys.take i).length := by simp only [List.length_take]; omega
  have e1 : dotS (xs.take (i + 1)) (ys.take (i + 1)) = dotS (xs.take i) (ys.take i) + satV xs[i] * satV ys[i] := by rw [take_snoc xs i ix, take_snoc ys i iy, dotS_app _ _ _ _ e0]
  have e2 : (hb || dotFl (xs.take (i + 1)) (ys.take (i + 1))) = (((hb || dotFl (xs.take i) (ys.take i)) || satH xs[i]) || satH ys[i]) := by rw [take_snoc xs i ix, take_snoc ys i iy, dotFl_app _ _ _ _ e0]; simp [Bool.or_assoc]
  have e3 : ((i : Int)).toNat * 1 = i := by simp
  have e4 : wr .i64 ((i : Int) + 1) = (i : Int) + 1 := w64_in (by omega) (by omega)
  have hI := isI_sat xs[i]
  have hI2 := isI_sat ys[i]
  obtain ⟨ty, fr, es, l⟩ := k1
  rw [e1, e2]
  generalize dotS (xs.take i) (ys.take i) = D at *
  obtain ⟨⟨bD0, bD1⟩, ⟨bp0, bp1⟩, bs0, bs1⟩ := dot_bds hi hm b0 b1
  obtain ⟨i2a, i2b⟩ := wHi_inI D bD0 bD1
  obtain ⟨l2a, l2b⟩ := wLo_in D
  obtain ⟨i3a, i3b⟩ := wHi_inI (satV xs[i] * satV ys[i]) bp0 bp1
  obtain ⟨l3a, l3b⟩ := wLo_in (satV xs[i] * satV ys[i])
  have j0 : (0 : Int) ≤ (i : Int) := Int.natCast_nonneg i
  have j1 : (i : Int) < (na : Int) := Int.ofNat_lt.2 (Nat.lt_of_lt_of_le hi hma)
  have j2 : (i : Int) < (nn : Int) := Int.ofNat_lt.2 (Nat.lt_of_lt_of_le hi hmb)
  have j3 : (i : Int) < (m : Int) := Int.ofNat_lt.2 hi
  refine To.run (z := Zl) sound18 (slots := [0, 1, 2, 3, 9, 25, 26]) (blks := [0, 1, 3]) (vs := [A0, I s, SLX 1 oa na ca, SLX 1 ob nn cb, P3, I m, I ((i : Int) + 1)])
    (bs := [flag 26 (((hb || dotFl (xs.take i) (ys.take i)) || satH xs[i]) || satH ys[i]), ⟨ty, fr, es, l⟩, wB (D + satV xs[i] * satV ys[i])]) (nbB := 4)
    (fun dead => dot_one_c dead (hb || dotFl (xs.take i) (ys.take i)) s oa na ca ob nn cb ty fr es l (wHi D) (wLo D) m i) rfl (by rw [e4]; rfl) (by rw [e3, hx.1, hy.1]; simp only [wVal_mk]; rfl) ?_ (kst_ok rfl (memOK3' (Nat.le_refl _) rfl (okL_mono noP_below hok) rfl)) (Nat.le_refl _)
  rw [e3, hx.1, hx.2, hy.1, hy.2, hI, hI2]
  simp only [wVal_mk, all_tt, isI_iff, isU_iff, isW_iff, Bool.and_eq_true, decide_eq_true_eq]
  repeat' apply And.intro
  all_goals first | exact ae_nil | exact True.intro | assumption
theorem dEndone (k1 : Blk) (s : Int) (oa na ca ob nn cb : Nat) (hok : okL noP k1.cells = true) (h : Bool) (v : Int) (m : Nat) : To Try.prog 53 (c1 (c1 (c2 (c1 doBd)))) (dAone k1 s oa na ca ob nn cb h v m m) (.exit 0) (dBone k1 s h v) := by
  obtain ⟨ty, fr, es, l⟩ := k1
  refine To.exec (z := Zl) sound18 (slots := [0, 1, 9]) (blks := [0, 1, 3]) (vs := [A0, I s, P3]) (bs := [flag 26 h, ⟨ty, fr, es, l⟩, wB v]) (nbB := 4) (fun dead => dot_one_d dead h s oa na ca ob nn cb ty fr es l (wHi v) (wLo v) m m) ?_ (kst_ok rfl (memOK3' (Nat.le_refl _) rfl (okL_mono noP_below hok) rfl)) (Nat.le_refl _)
  simp
theorem dRdone (k1 : Blk) (s : Int) (oa na ca ob nn cb : Nat) (xs ys : List Int) (hx : SlAt 1 k1 oa na xs) (hy : SlAt 1 k1 ob nn ys) (hb : Bool) (m : Nat) (hm : m ≤ 100) (hma : m ≤ na) (hmb : m ≤ nn) : ∀ (j i : Nat), i + j = m →
    Rd Try.prog 53 (c1 (c1 (c2 (c1 doBd)))) (j + 1) (dAone k1 s oa na ca ob nn cb (hb || dotFl (xs.take i) (ys.take i)) (dotS (xs.take i) (ys.take i)) m i) (.exit 0) (dBone k1 s (hb || dotFl (xs.take m) (ys.take m)) (dotS (xs.take m) (ys.take m)))
  | 0, i, h => by
    have hi : i = m := by omega
    subst hi
    exact Rd.last (by simp) (dEndone k1 s oa na ca ob nn cb hx.2.2 _ _ i)
  | j + 1, i, h => Rd.next (dStepone k1 s oa na ca ob nn cb xs ys hx hy hb m hm hma hmb i (by omega)) (dRdone k1 s oa na ca ob nn cb xs ys hx hy hb m hm hma hmb j (i + 1) (by omega))

theorem dInone (k1 : Blk) (s : Int) (h0 : 0 ≤ s) (h1 : s ≤ 120) (oa na ca ob nn cb : Nat) (xs ys : List Int) (hx : SlAt 1 k1 oa na xs) (hy : SlAt 1 k1 ob nn ys) (hb : Bool) (E : Env) (w : World) (hrel : Rel E (getM [(0, flag 26 hb), (1, k1)]) w) :
    Calls Try.prog 15 ((A0 :: ([I s] ++ [SLX 1 oa na ca, SLX 1 ob nn cb])).map (LV.den E)).toArray w fun e w' => e = .returned ((I (dotV s xs ys)).den E0) ∧ Lcl E [(0, flag 26 hb), (1, k1)] [(0, flag 26 (hb || dotH s xs ys)), (1, k1)] w w' := by
  have hxl : xs.length = na := by have := hx.1; omega
  have hyl : ys.length = nn := by have := hy.1; omega
  have hok := hx.2.2
  have hok2 := hy.2.2
  have hm : min (min na nn) 100 ≤ 100 := by omega
  have hR := dRdone k1 s oa na ca ob nn cb xs ys hx hy hb (min (min na nn) 100) (by omega) (by omega) (by omega) (min (min na nn) 100) 0 (by omega)
  have hmin := dot_min xs ys (min (min na nn) 100) 100 (by omega) (by omega)
  rw [hmin.1, hmin.2] at hR
  have eI : (if (100 : Int) < if (nn : Int) < (na : Int) then (nn : Int) else (na : Int) then 100 else if (nn : Int) < (na : Int) then (nn : Int) else (na : Int)) = ((min (min na nn) 100 : Nat) : Int) := by (repeat' split) <;> omega
  generalize min (min na nn) 100 = m at *
  have b0 := dotS_bd (xs.take 100) (ys.take 100)
  rw [List.length_take] at b0
  have hV : dotV s xs ys = rndS (dotS (xs.take 100) (ys.take 100)) s := rfl
  have hH : (hb || dotH s xs ys) = ((hb || dotFl (xs.take 100) (ys.take 100)) || rndH (dotS (xs.take 100) (ys.take 100)) s) := by unfold dotH; rw [Bool.or_assoc]
  rw [hV, hH]
  generalize dotS (xs.take 100) (ys.take 100) = D at *
  obtain ⟨bD0, bD1⟩ := dot_bdn (k := 0) b0
  have hi2 := wHi_inI D bD0 bD1
  have hl2 := wLo_in D
  have hs1 : decide (s > 120) = false := decide_eq_false (by omega)
  have hs0 : decide (s < 0) = false := decide_eq_false (by omega)
  obtain ⟨ty, fr, es, l⟩ := k1
  refine lcl_of_To (c := bodyF Try.prog 15) (e := .ret) (nb := 3) (B := ⟨[(8, I (rndS D s))], [(0, flag 26 ((hb || dotFl (xs.take 100) (ys.take 100)) || rndH D s)), (1, ⟨ty, fr, es, l⟩)], 4⟩) Try.func15 (by kernel_rfl) (Nat.le_of_ble_eq_true (by kernel_rfl)) (Nat.le_of_ble_eq_true (by kernel_rfl))
    (fun u hu => ?_) (memOK2 (Nat.le_of_ble_eq_true rfl) rfl (okL_mono noP_below hok)) ?_ (.inr rfl) (fun dead => by kernel_rfl) rfl (fun i b hib => ?_) E w hrel
  · simp only [List.cons_append, List.nil_append, List.mem_cons, List.not_mem_nil, or_false] at hu
    rcases hu with rfl | rfl | rfl | rfl <;> rfl
  · refine To.spineR (z := Zl) sound18 (k := 3) (slots := [0, 1, 2, 3, 9]) (blks := [0, 1, 3]) (vs := [A0, I s, SLX 1 oa na ca, SLX 1 ob nn cb, P3]) (bs := [flag 26 hb, ⟨ty, fr, es, l⟩, wB 0]) (nbB := 4) (by kernel_rfl) (fun dead => dot_one_a dead hb s oa na ca ob nn cb ty fr es l) rfl rfl rfl (by rw [hs1, hs0]; simp) (kst_ok rfl (memOK3' (Nat.le_refl _) rfl (okL_mono noP_below hok) rfl)) (Nat.le_succ 3) ?_
    refine To.seq (by kernel_rfl) (To.seq (by kernel_rfl) (To.run (z := Zl) sound18 (slots := [0, 1, 2, 3, 9, 25, 26]) (blks := [0, 1, 3]) (vs := [A0, I s, SLX 1 oa na ca, SLX 1 ob nn cb, P3, I m, I 0]) (bs := [flag 26 hb, ⟨ty, fr, es, l⟩, wB 0]) (nbB := 4) (fun dead => dot_one_b dead hb s oa na ca ob nn cb ty fr es l 0 0) rfl (by simp only [eI]; rfl) rfl ae_nil (kst_ok rfl (memOK3' (Nat.le_refl _) rfl (okL_mono noP_below hok) rfl)) (Nat.le_refl _))
      (To.block (id := 0) (by kernel_rfl) (To.loop (m := m + 1) (by kernel_rfl) ?_) (.inl rfl))) (C := _) (B := dBone ⟨ty, fr, es, l⟩ s (hb || dotFl (xs.take 100) (ys.take 100)) D) ?_
    · simp only [List.take_zero, dotFl, Bool.or_false, dotS] at hR
      exact hR
    · refine To.run (z := Zl) sound18 (slots := [8]) (blks := [0, 1]) (vs := [I (rndS D s)]) (bs := [flag 26 ((hb || dotFl (xs.take 100) (ys.take 100)) || rndH D s), ⟨ty, fr, es, l⟩]) (nbB := 4) (fun dead => dot_one_e dead (hb || dotFl (xs.take 100) (ys.take 100)) s oa na ca ob nn cb ty fr es l (wHi D) (wLo D)) rfl ?_ ?_ ?_ (kst_ok rfl (memOK2 (Nat.le_of_ble_eq_true rfl) rfl (okL_mono noP_below hok))) (Nat.le_refl _)
      · rw [wVal_mk]; rfl
      · rw [wVal_mk]; rfl
      · simp only [all_tt, isI_iff, isU_iff]
        exact ⟨hi2, hl2, ae_nil⟩
  · rcases get2 hib with ⟨rfl, rfl⟩ | ⟨rfl, rfl⟩
    · exact ⟨rfl, by decide, rfl⟩
    · exact ⟨rfl, by decide, okL_mono noP_below hok⟩

theorem sumDot : SumOK Try.prog 15 (acSum 26 1 fdotS) := by
  refine acSum2_ok (own_of sound18 Try.func15 (by kernel_rfl)) (fun avs hb r h => ?_) fun pre xs ys hb v h' cs hF hcc hp hv => ?_
  · unfold fdotS at h
    split at h
    · exact ⟨[_], _, _, rfl⟩
    · cases h
  · have hpre : ∃ s, pre = [I s] := by
      match pre with
      | [] => simp [fdotS] at hF
      | [p] =>
        simp only [List.map_cons, List.map_nil, List.cons_append, List.nil_append] at hF
        unfold fdotS at hF
        split at hF
        · rename_i he
          simp only [List.cons.injEq, AV.pl.injEq] at he
          obtain ⟨e, -⟩ := he
          exact ⟨_, by rw [e]; rfl⟩
        · cases hF
      | p :: q :: r => simp [fdotS] at hF
    obtain ⟨s, rfl⟩ := hpre
    have hF' : some (I (dotV s xs ys), hb || dotH s xs ys, []) = some (v, h', cs) := hF
    cases hF'
    have hargs : ∀ (p q : LV) (nb : Nat), p.ok (below nb) = true → q.ok (below nb) = true → 1 ≤ nb → ∀ u ∈ A0 :: ([I s] ++ [p, q]), u.ok (below nb) = true := by
      intro p q nb hp hq hn u hu
      simp only [List.cons_append, List.nil_append, List.mem_cons, List.not_mem_nil, or_false] at hu
      rcases hu with rfl | rfl | rfl | rfl
      · simp [A0, LV.ok, V1.ok, At.ok, below, nblt]; omega
      · rfl
      · exact hp
      · exact hq
    have hs : s < 0 ∨ s > 120 ∨ (0 ≤ s ∧ s ≤ 120) := by omega
    refine ⟨fun k1 oa na ca k2 ob nn cb hx hy E w hrel => ?_, fun k1 oa na ca ob nn cb hx hy E w hrel => ?_, fun hx k1 ob nn cb hy E w hrel => ?_, fun hy k1 oa na ca hx E w hrel => ?_, fun hx hy E w hrel => ?_⟩
    · have hok := hx.2.2
      have hok2 := hy.2.2
      obtain ⟨ty, fr, es, l⟩ := k1
      obtain ⟨ty2, fr2, es2, l2⟩ := k2
      rcases hs with h | h | ⟨h0, h1⟩
      · have hd := dot_out (.inl h) xs ys hb
        rw [← hd.1, ← hd.2]
        refine lcl3 sound18 (dn_two_neg hb s oa na ca ob nn cb ty fr es l ty2 fr2 es2 l2) (fun i b hib => ?_) (cs_neg h) (memOK3 (Nat.le_refl _) rfl (okL_mono noP_below hok) (okL_mono noP_below hok2)) (hargs _ _ _ rfl rfl (by decide)) rfl E w hrel
        · rcases get3 hib with ⟨rfl, rfl⟩ | ⟨rfl, rfl⟩ | ⟨rfl, rfl⟩
          · exact ⟨.inl ⟨rfl, rfl⟩, by decide, rfl⟩
          · exact ⟨.inr (.inl ⟨rfl, rfl⟩), by decide, okL_mono noP_below hok⟩
          · exact ⟨.inr (.inr ⟨rfl, rfl⟩), by decide, okL_mono noP_below hok2⟩
      · have hd := dot_out (.inr h) xs ys hb
        rw [← hd.1, ← hd.2]
        refine lcl3 sound18 (dn_two_big hb s oa na ca ob nn cb ty fr es l ty2 fr2 es2 l2) (fun i b hib => ?_) (cs_big h) (memOK3 (Nat.le_refl _) rfl (okL_mono noP_below hok) (okL_mono noP_below hok2)) (hargs _ _ _ rfl rfl (by decide)) rfl E w hrel
        · rcases get3 hib with ⟨rfl, rfl⟩ | ⟨rfl, rfl⟩ | ⟨rfl, rfl⟩
          · exact ⟨.inl ⟨rfl, rfl⟩, by decide, rfl⟩
          · exact ⟨.inr (.inl ⟨rfl, rfl⟩), by decide, okL_mono noP_below hok⟩
          · exact ⟨.inr (.inr ⟨rfl, rfl⟩), by decide, okL_mono noP_below hok2⟩
      · exact dIntwo ⟨ty, fr, es, l⟩ ⟨ty2, fr2, es2, l2⟩ s h0 h1 oa na ca ob nn cb xs ys hx hy hb E w hrel
    · have hok := hx.2.2
      obtain ⟨ty, fr, es, l⟩ := k1
      rcases hs with h | h | ⟨h0, h1⟩
      · have hd := dot_out (.inl h) xs ys hb
        rw [← hd.1, ← hd.2]
        refine lcl3 sound18 (dn_one_neg hb s oa na ca ob nn cb ty fr es l 0 (0, 0) 0 []) (fun i b hib => ?_) (cs_neg h) (memOK2 (Nat.le_of_ble_eq_true rfl) rfl (okL_mono noP_below hok)) (hargs _ _ _ rfl rfl (by decide)) rfl E w hrel
        · rcases get2 hib with ⟨rfl, rfl⟩ | ⟨rfl, rfl⟩
          · exact ⟨.inl ⟨rfl, rfl⟩, by decide, rfl⟩
          · exact ⟨.inr (.inl ⟨rfl, rfl⟩), by decide, okL_mono noP_below hok⟩
      · have hd := dot_out (.inr h) xs ys hb
        rw [← hd.1, ← hd.2]
        refine lcl3 sound18 (dn_one_big hb s oa na ca ob nn cb ty fr es l 0 (0, 0) 0 []) (fun i b hib => ?_) (cs_big h) (memOK2 (Nat.le_of_ble_eq_true rfl) rfl (okL_mono noP_below hok)) (hargs _ _ _ rfl rfl (by decide)) rfl E w hrel
        · rcases get2 hib with ⟨rfl, rfl⟩ | ⟨rfl, rfl⟩
          · exact ⟨.inl ⟨rfl, rfl⟩, by decide, rfl⟩
          · exact ⟨.inr (.inl ⟨rfl, rfl⟩), by decide, okL_mono noP_below hok⟩
      · exact dInone ⟨ty, fr, es, l⟩ s h0 h1 oa na ca ob nn cb xs ys hx hy hb E w hrel
    · have hok := hy.2.2
      obtain ⟨ty, fr, es, l⟩ := k1
      rcases hs with h | h | ⟨h0, h1⟩
      · have hd := dot_out (.inl h) xs ys hb
        rw [← hd.1, ← hd.2]
        refine lcl3 sound18 (dn_right_neg hb s 0 0 0 ob nn cb ty fr es l 0 (0, 0) 0 []) (fun i b hib => ?_) (cs_neg h) (memOK2 (Nat.le_of_ble_eq_true rfl) rfl (okL_mono noP_below hok)) (hargs _ _ _ rfl rfl (by decide)) rfl E w hrel
        · rcases get2 hib with ⟨rfl, rfl⟩ | ⟨rfl, rfl⟩
          · exact ⟨.inl ⟨rfl, rfl⟩, by decide, rfl⟩
          · exact ⟨.inr (.inl ⟨rfl, rfl⟩), by decide, okL_mono noP_below hok⟩
      · have hd := dot_out (.inr h) xs ys hb
        rw [← hd.1, ← hd.2]
        refine lcl3 sound18 (dn_right_big hb s 0 0 0 ob nn cb ty fr es l 0 (0, 0) 0 []) (fun i b hib => ?_) (cs_big h) (memOK2 (Nat.le_of_ble_eq_true rfl) rfl (okL_mono noP_below hok)) (hargs _ _ _ rfl rfl (by decide)) rfl E w hrel
        · rcases get2 hib with ⟨rfl, rfl⟩ | ⟨rfl, rfl⟩
          · exact ⟨.inl ⟨rfl, rfl⟩, by decide, rfl⟩
          · exact ⟨.inr (.inl ⟨rfl, rfl⟩), by decide, okL_mono noP_below hok⟩
      · have hd := dot_nil (s := s) (xs := xs) (ys := ys) (.inl hx) hb
        rw [← hd.1, ← hd.2]
        refine lcl3 sound18 (dn_right_in hb s 0 0 0 ob nn cb ty fr es l 0 (0, 0) 0 []) (fun i b hib => ?_) (cs_in (decide_eq_false (by (repeat' split) <;> omega)) h0 h1) (memOK2 (Nat.le_of_ble_eq_true rfl) rfl (okL_mono noP_below hok)) (hargs _ _ _ rfl rfl (by decide)) rfl E w hrel
        · rcases get2 hib with ⟨rfl, rfl⟩ | ⟨rfl, rfl⟩
          · exact ⟨.inl ⟨rfl, rfl⟩, by decide, rfl⟩
          · exact ⟨.inr (.inl ⟨rfl, rfl⟩), by decide, okL_mono noP_below hok⟩
    · have hok := hx.2.2
      obtain ⟨ty, fr, es, l⟩ := k1
      rcases hs with h | h | ⟨h0, h1⟩
      · have hd := dot_out (.inl h) xs ys hb
        rw [← hd.1, ← hd.2]
        refine lcl3 sound18 (dn_left_neg hb s oa na ca 0 0 0 ty fr es l 0 (0, 0) 0 []) (fun i b hib => ?_) (cs_neg h) (memOK2 (Nat.le_of_ble_eq_true rfl) rfl (okL_mono noP_below hok)) (hargs _ _ _ rfl rfl (by decide)) rfl E w hrel
        · rcases get2 hib with ⟨rfl, rfl⟩ | ⟨rfl, rfl⟩
          · exact ⟨.inl ⟨rfl, rfl⟩, by decide, rfl⟩
          · exact ⟨.inr (.inl ⟨rfl, rfl⟩), by decide, okL_mono noP_below hok⟩
      · have hd := dot_out (.inr h) xs ys hb
        rw [← hd.1, ← hd.2]
        refine lcl3 sound18 (dn_left_big hb s oa na ca 0 0 0 ty fr es l 0 (0, 0) 0 []) (fun i b hib => ?_) (cs_big h) (memOK2 (Nat.le_of_ble_eq_true rfl) rfl (okL_mono noP_below hok)) (hargs _ _ _ rfl rfl (by decide)) rfl E w hrel
        · rcases get2 hib with ⟨rfl, rfl⟩ | ⟨rfl, rfl⟩
          · exact ⟨.inl ⟨rfl, rfl⟩, by decide, rfl⟩
          · exact ⟨.inr (.inl ⟨rfl, rfl⟩), by decide, okL_mono noP_below hok⟩
      · have hd := dot_nil (s := s) (xs := xs) (ys := ys) (.inr hy) hb
        rw [← hd.1, ← hd.2]
        refine lcl3 sound18 (dn_left_in hb s oa na ca 0 0 0 ty fr es l 0 (0, 0) 0 []) (fun i b hib => ?_) (cs_in (decide_eq_false (by (repeat' split) <;> omega)) h0 h1) (memOK2 (Nat.le_of_ble_eq_true rfl) rfl (okL_mono noP_below hok)) (hargs _ _ _ rfl rfl (by decide)) rfl E w hrel
        · rcases get2 hib with ⟨rfl, rfl⟩ | ⟨rfl, rfl⟩
          · exact ⟨.inl ⟨rfl, rfl⟩, by decide, rfl⟩
          · exact ⟨.inr (.inl ⟨rfl, rfl⟩), by decide, okL_mono noP_below hok⟩
    · have hok := True.intro
      have l : List At := []
      rcases hs with h | h | ⟨h0, h1⟩
      · have hd := dot_out (.inl h) xs ys hb
        rw [← hd.1, ← hd.2]
        refine lcl3 sound18 (dn_none_neg hb s 0 0 0 0 0 0 0 (0, 0) 0 [] 0 (0, 0) 0 []) (fun i b hib => ?_) (cs_neg h) (memOK1 (Nat.le_of_ble_eq_true rfl) rfl) (hargs _ _ _ rfl rfl (by decide)) rfl E w hrel
        · obtain ⟨rfl, rfl⟩ := get1 hib
          exact ⟨.inl ⟨rfl, rfl⟩, by decide, rfl⟩
      · have hd := dot_out (.inr h) xs ys hb
        rw [← hd.1, ← hd.2]
        refine lcl3 sound18 (dn_none_big hb s 0 0 0 0 0 0 0 (0, 0) 0 [] 0 (0, 0) 0 []) (fun i b hib => ?_) (cs_big h) (memOK1 (Nat.le_of_ble_eq_true rfl) rfl) (hargs _ _ _ rfl rfl (by decide)) rfl E w hrel
        · obtain ⟨rfl, rfl⟩ := get1 hib
          exact ⟨.inl ⟨rfl, rfl⟩, by decide, rfl⟩
      · have hd := dot_nil (s := s) (xs := xs) (ys := ys) (.inl hx) hb
        rw [← hd.1, ← hd.2]
        refine lcl3 sound18 (dn_none_in hb s 0 0 0 0 0 0 0 (0, 0) 0 [] 0 (0, 0) 0 []) (fun i b hib => ?_) (cs_in (decide_eq_false (by (repeat' split) <;> omega)) h0 h1) (memOK1 (Nat.le_of_ble_eq_true rfl) rfl) (hargs _ _ _ rfl rfl (by decide)) rfl E w hrel
        · obtain ⟨rfl, rfl⟩ := get1 hib
          exact ⟨.inl ⟨rfl, rfl⟩, by decide, rfl⟩

def S21 : FuncId → Option SumK := more S18 15 (acSum 26 1 fdotS)
theorem sound21 : Sound Try.prog S21 := sound18.more sumDot
end Go.Proofs.Ytnabopepomjncaa

/- Facts of rounding, dividing, roots, clamping: plain. -/
namespace Go.Proofs.Ytnabopepomjncaa
open Go.Lr
set_option linter.unusedVariables false

theorem sat_mono {a b : Int} (h : a ≤ b) : satV a ≤ satV b := by
  unfold satV clampV; (repeat' split) <;> omega
theorem sat_odd (a : Int) : satV (-a) = -satV a := by
  unfold satV clampV; (repeat' split) <;> omega
theorem satH_iff {a : Int} : satH a = false ↔ -1152921504606846976 ≤ a ∧ a ≤ 1152921504606846976 := by
  constructor
  · intro h
    by_cases h1 : a < -1152921504606846976 ∨ 1152921504606846976 < a
    · rw [satH_out h1] at h; cases h
    · omega
  · exact fun h => satH_in h.1 h.2
theorem sat_sat (a : Int) : satV (satV a) = satV a := by have := sat_bd a; exact sat_in this.1 this.2
theorem satH_sat (a : Int) : satH (satV a) = false := by have := sat_bd a; exact satH_in this.1 this.2

theorem rnd_pos {w : Int} (h : 0 ≤ w) (s : Nat) : rndV w s = (w + halfP s) / pow2 s := by
  unfold rndV sgn
  rw [absV_pos h]
  have : ¬ w < 0 := by omega
  simp [this]
theorem rnd_neg {w : Int} (h : w ≤ 0) (s : Nat) : rndV w s = -((-w + halfP s) / pow2 s) := by
  by_cases h0 : w = 0
  · subst h0
    rw [rnd_pos (Int.le_refl 0)]
    have h1 := halfP_le s
    have h2 := pow2_pos s
    have h3 : halfP s < pow2 s := by
      cases s with
      | zero => decide
      | succ n => have := pow2_pos n; show pow2 n < _; rw [pow2_succ]; omega
    have e : (0 + halfP s) / pow2 s = 0 := Int.ediv_eq_zero_of_lt (by omega) (by omega)
    rw [e, Int.neg_zero, e, Int.neg_zero]
  · unfold rndV sgn
    rw [absV_neg h]
    have : w < 0 := by omega
    simp [this]
theorem rnd_odd (w : Int) (s : Nat) : rndV (-w) s = -rndV w s := by
  by_cases h : 0 ≤ w
  · rw [rnd_neg (by omega), rnd_pos h, Int.neg_neg]
  · rw [rnd_pos (by omega), rnd_neg (w := w) (by omega), Int.neg_neg]
theorem rnd_mono {v w : Int} (h : v ≤ w) (s : Nat) : rndV v s ≤ rndV w s := by
  have hp := pow2_pos s
  have hh := (halfP_le s).1
  by_cases h0 : 0 ≤ v
  · rw [rnd_pos h0, rnd_pos (by omega)]
    exact Int.ediv_le_ediv hp (by omega)
  · by_cases h1 : 0 ≤ w
    · rw [rnd_neg (by omega), rnd_pos h1]
      have a := Int.ediv_nonneg (a := -v + halfP s) (b := pow2 s) (by omega) (by omega)
      have b := Int.ediv_nonneg (a := w + halfP s) (b := pow2 s) (by omega) (by omega)
      omega
    · rw [rnd_neg (by omega), rnd_neg (by omega)]
      have := Int.ediv_le_ediv (a := -w + halfP s) (b := -v + halfP s) hp (by omega)
      omega
theorem halfP_two (s : Nat) : 2 * halfP s ≤ pow2 s ∧ (s = 0 ∧ halfP s = 0 ∧ pow2 s = 1 ∨ 2 * halfP s = pow2 s) := by
  cases s with
  | zero => exact ⟨by decide, .inl ⟨rfl, rfl, rfl⟩⟩
  | succ n => rw [pow2_succ]; exact ⟨Int.le_refl _, .inr rfl⟩
theorem rnd_bd (w : Int) (s : Nat) : -(pow2 s) ≤ 2 * (rndV w s * pow2 s - w) ∧ 2 * (rndV w s * pow2 s - w) ≤ pow2 s := by
  have hp := pow2_pos s
  have hh := halfP_two s
  have h1 := (halfP_le s).1
  have key : ∀ u : Int, 0 ≤ u → -(pow2 s) ≤ 2 * ((u + halfP s) / pow2 s * pow2 s - u) ∧ 2 * ((u + halfP s) / pow2 s * pow2 s - u) ≤ pow2 s := by
    intro u hu
    have e := Int.emod_add_mul_ediv (u + halfP s) (pow2 s)
    have a := Int.emod_nonneg (u + halfP s) (show pow2 s ≠ 0 by omega)
    have b := Int.emod_lt_of_pos (u + halfP s) hp
    rw [Int.mul_comm (pow2 s)] at e
    generalize (u + halfP s) / pow2 s * pow2 s = q at *
    generalize (u + halfP s) % pow2 s = r at *
    omega
  by_cases h : 0 ≤ w
  · rw [rnd_pos h]; exact key w h
  · rw [rnd_neg (by omega)]
    have := key (-w) (by omega)
    rw [Int.neg_mul]
    omega

theorem quo_bd {a b : Int} (ha : 0 ≤ a) (hb : 0 < b) : -b ≤ 2 * (quoR a b * b - a) ∧ 2 * (quoR a b * b - a) ≤ b := by
  have e := Int.emod_add_mul_ediv a b
  have h0 := Int.emod_nonneg a (show b ≠ 0 by omega)
  have h1 := Int.emod_lt_of_pos a hb
  rw [Int.mul_comm b] at e
  unfold quoR
  split
  · have e2 : (a / b + 1) * b = a / b * b + b := by grind
    rw [e2]; omega
  · omega
theorem div_pos {a b : Int} (ha : 0 ≤ a) (hb : 0 < b) : divV a b = quoR a b := by
  unfold divV
  rw [absV_pos ha, absV_pos (by omega)]
  have h1 : ¬ a < 0 := by omega
  have h2 : ¬ b < 0 := by omega
  simp [h1, h2, sgn]
theorem div_exact (k d : Int) (hd : d ≠ 0) : divV (k * d) d = k := by
  have hq : ∀ x y : Int, 0 < y → quoR (x * y) y = x := by
    intro x y hy
    unfold quoR
    rw [Int.mul_emod_left, Int.mul_ediv_cancel _ (by omega), if_neg (by omega)]
  have hd0 : 0 < absV d := by unfold absV; split <;> omega
  unfold divV
  rw [absV_mul, hq _ _ hd0]
  have hs := sgn_abs k
  by_cases hk : k = 0
  · subst hk; simp [absV, sgn]
  · by_cases h1 : k < 0 <;> by_cases h2 : d < 0
    · have : ¬ k * d < 0 := by have := Int.mul_pos_of_neg_of_neg h1 h2; omega
      simp [this, h1, h2] at hs ⊢; exact hs
    · have : k * d < 0 := Int.mul_neg_of_neg_of_pos h1 (by omega)
      simp [this, h1, h2] at hs ⊢; exact hs
    · have : k * d < 0 := Int.mul_neg_of_pos_of_neg (by omega) h2
      simp [this, h1, h2] at hs ⊢; exact hs
    · have : ¬ k * d < 0 := by have := Int.mul_pos (show 0 < k by omega) (show 0 < d by omega); omega
      simp [this, h1, h2] at hs ⊢; exact hs

/-- Roots: bounds, order. -/
theorem root_le {N m : Int} (h0 : 0 ≤ N) (h1 : N < 340282366920938463463374607431768211456) (hm : 0 ≤ m) (h : N ≤ m * m + m) : rootW N ≤ m := by
  obtain ⟨a, b, c⟩ := rootW_spec h0 h1
  generalize rootW N = r at *
  rcases Int.lt_or_le m r with hlt | hle
  · exfalso
    rcases c with rfl | c
    · omega
    · have e : r * r - r = r * (r - 1) := by grind
      have : (m + 1) * m ≤ r * (r - 1) := Int.mul_le_mul (by omega) (by omega) hm a
      have e2 : (m + 1) * m = m * m + m := by grind
      omega
  · exact hle
theorem root_ge {N m : Int} (h0 : 0 ≤ N) (h1 : N < 340282366920938463463374607431768211456) (h : m ≤ 0 ∨ m * m - m < N) : m ≤ rootW N := by
  obtain ⟨a, b, c⟩ := rootW_spec h0 h1
  generalize rootW N = r at *
  rcases h with h | h
  · omega
  · rcases Int.lt_or_le r m with hlt | hle
    · exfalso
      have e : r * r + r = r * (r + 1) := by grind
      have : r * (r + 1) ≤ (m - 1) * m := Int.mul_le_mul (by omega) (by omega) (by omega) (by omega)
      have e2 : (m - 1) * m = m * m - m := by grind
      omega
    · exact hle
theorem root_mono {M N : Int} (h0 : 0 ≤ M) (h1 : N < 340282366920938463463374607431768211456) (h : M ≤ N) : rootW M ≤ rootW N := by
  obtain ⟨a, b, c⟩ := rootW_spec (N := N) (by omega) h1
  exact root_le h0 (by omega) a (by omega)
end Go.Proofs.Ytnabopepomjncaa

/- Laws that are handed slices: the blocks behind them, as the evaluator's memory. -/
namespace Go.Lr
set_option linter.unusedVariables false
open Go.ChangeShapes Go.WideShapes Go.ChangeAt Go.RowKit

theorem row_le {p : Program} {fits : TypeId → Bool} : ∀ (d : Nat) (e : TypeId) (count off n : Nat), rowAt p fits d e count off n = true → off ≤ count * p.cellsOf e
  | 0, e, count, off, n, h => by simp [rowAt] at h
  | d + 1, e, count, off, n, h => by
    unfold rowAt at h
    by_cases hs : p.cellsOf e = 0
    · simp [hs] at h
    · simp only [hs, if_false] at h
      have hd : off = off / p.cellsOf e * p.cellsOf e + off % p.cellsOf e := (Nat.div_add_mod' off (p.cellsOf e)).symm
      rw [Bool.or_eq_true] at h
      rcases h with h | h
      · simp only [Bool.and_eq_true, beq_iff_eq, decide_eq_true_eq] at h
        obtain ⟨⟨h1, h2⟩, -⟩ := h
        rw [h1, Nat.add_zero] at hd
        rw [hd]
        exact Nat.mul_le_mul_right _ (by omega)
      · rw [Bool.and_eq_true] at h
        have h1 : off / p.cellsOf e < count := by simpa using h.1
        have := (Nat.div_lt_iff_lt_mul (Nat.pos_of_ne_zero hs)).1 h1
        omega

theorem lies_le {p : Program} : ∀ (d : Nat) (e : TypeId) (count off : Nat) (u : TypeId) (n : Nat), liesAt p d e count off u n = true → off ≤ count * p.cellsOf e
  | 0, e, count, off, u, n, h => by simp [liesAt] at h
  | d + 1, e, count, off, u, n, h => by
    unfold liesAt at h
    rw [Bool.or_eq_true] at h
    rcases h with h | h
    · exact row_le _ _ _ _ _ h
    · split at h
      · exact lies_le d e count off _ _ h
      · cases h

/-- The block that a slice leads to is there. -/
def IsBlk (w : World) (a : Option Addr) : Prop := ∀ x, a = some x → x.spot = none ∧ ∃ arr ty fr, w.heap[x.block]? = some (.cells arr ty fr) ∧ x.off ≤ arr.size

theorem okWide_blk {P : Program} {w : World} {r : Reach} {base : Nat} {t e : TypeId} {a : Option Addr} {len cap : Nat} (ht : P.underlying t = some (.slice e)) (h : Value.okWide P w r base t (.slice a len cap)) : IsBlk w a := by
  intro x hx
  subst hx
  simp only [Value.okWide, ht, Cell.okWide, Cell.ok] at h
  obtain ⟨-, -, -, hsp, row, cells, hsh, hl⟩ := h
  refine ⟨hsp, ?_⟩
  unfold World.shape? at hsh
  split at hsh
  · rename_i c el fr hh
    cases hsh
    have := lies_le _ _ _ _ _ _ hl
    exact ⟨c, _, fr, hh, Nat.le_trans this (Nat.div_mul_le_self _ _)⟩
  · cases hsh

def conv : Value → At
  | .int k n => .int k n
  | .bool b => .bool b
  | v => .opq v
theorem conv_den (E : Env) (v : Value) : (conv v).den E = v := by cases v <;> rfl
theorem conv_ok (p : Nat → Bool) (v : Value) : (conv v).ok p = true := by cases v <;> rfl
def convL (arr : Array Value) : List At := arr.toList.map conv
theorem convL_den (E : Env) (arr : Array Value) : (convL arr).map (At.den E) = arr.toList := by
  unfold convL
  rw [List.map_map]
  have : (At.den E ∘ conv) = id := by funext v; exact conv_den E v
  rw [this, List.map_id]
theorem okL_map (p : Nat → Bool) : ∀ l : List Value, okL p (l.map conv) = true
  | [] => rfl
  | v :: l => by
    show (match (conv v).ok p with | true => okL p (l.map conv) | false => false) = true
    rw [conv_ok]; exact okL_map p l
theorem convL_ok (p : Nat → Bool) (arr : Array Value) : okL p (convL arr) = true := okL_map p _
def blkOf (arr : Array Value) (ty : TypeId) (fr : Nat × Nat) : Blk := ⟨ty, fr, 0, convL arr⟩
theorem blkOf_at {E : Env} {i b : Nat} {w : World} {arr : Array Value} {ty : TypeId} {fr : Nat × Nat} (he : (E i).1 = b) (h : w.heap[b]? = some (.cells arr ty fr)) : blkAt E i (blkOf arr ty fr) w := by
  refine ⟨[], ?_, fun _ => rfl, fun hn => absurd rfl hn⟩
  rw [he, h]
  show _ = some (Obj.cells ((convL arr).map (At.den E) ++ []).toArray ty fr)
  rw [convL_den, List.append_nil]

/-- A row of numbers, in a block's cells. -/
structure RowL (arr : Array Value) (o cap : Nat) (zs : List Int) : Prop where
  len : zs.length = cap
  le : o + cap ≤ arr.size
  at' : ∀ i (h : i < cap), arr[o + i]? = some (.int .i64 (zs.getD i 0))

theorem add_cell {w : World} {b o : Nat} {arr : Array Value} {ty : TypeId} {fr : Nat × Nat} (h : w.heap[b]? = some (.cells arr ty fr)) (i : Nat) : w.cell? (Addr.add ⟨b, o, none⟩ i) = arr[o + i]? := by
  have e : Addr.add ⟨b, o, none⟩ i = ⟨b, o + i, none⟩ := by
    unfold Addr.add
    split
    · rename_i h; rw [h, Nat.add_zero]
    · rfl
  rw [e]
  unfold World.cell?
  simp only [h, Option.isSome_none, Bool.false_eq_true, if_false]

theorem row_in {w : World} {a : Option Addr} {len cap : Nat} {zs : List Int} (hb : IsBlk w a)
    (h : (a = none ∧ len = 0 ∧ cap = 0 ∧ zs = []) ∨ ∃ x, a = some x ∧ len ≤ cap ∧ cap ≤ maxLen ∧ zs.length = cap ∧ (∀ i, i < zs.length → w.cell? (x.add i) = some (.int .i64 (zs.getD i 0))) ∧ ∀ n ∈ zs, (Lit.int .i64 n).wf = true) :
    (a = none ∧ len = 0 ∧ cap = 0 ∧ zs = []) ∨ ∃ b o arr ty fr, a = some ⟨b, o, none⟩ ∧ w.heap[b]? = some (.cells arr ty fr) ∧ len ≤ cap ∧ cap ≤ maxLen ∧ RowL arr o cap zs ∧ ∀ n ∈ zs, (Lit.int .i64 n).wf = true := by
  rcases h with h | ⟨x, rfl, hl, hm, hz, hc, hw⟩
  · exact .inl h
  · right
    obtain ⟨hs, arr, ty, fr, hh, ho⟩ := hb x rfl
    obtain ⟨b, o, sp⟩ := x
    cases hs
    refine ⟨b, o, arr, ty, fr, rfl, hh, hl, hm, ⟨hz, ?_, fun i hi => ?_⟩, hw⟩
    · by_cases h0 : cap = 0
      · rw [h0]; exact ho
      · have := hc (cap - 1) (by omega)
        rw [add_cell hh] at this
        have := (Array.getElem?_eq_some_iff.1 this).1
        omega
    · have := hc i (by omega)
      rw [add_cell hh] at this
      exact this

theorem RowL.atL {arr : Array Value} {o cap : Nat} {zs : List Int} (h : RowL arr o cap zs) {i : Nat} (hi : i < cap) : (convL arr)[o + i]? = some (.int .i64 (zs.getD i 0)) := by
  unfold convL
  rw [List.getElem?_map, Array.getElem?_toList, h.at' i hi]
  rfl
theorem RowL.cut {arr : Array Value} {o cap : Nat} {zs : List Int} (h : RowL arr o cap zs) {p n : Nat} (hn : p + n ≤ cap) : ((convL arr).drop (o + p)).take n = ((zs.drop p).take n).map (At.int .i64) := by
  refine List.ext_getElem? fun i => ?_
  by_cases hi : i < n
  · rw [List.getElem?_take, if_pos hi, List.getElem?_drop, Nat.add_assoc, h.atL (i := p + i) (by omega), List.getElem?_map, List.getElem?_take, if_pos hi, List.getElem?_drop, List.getD_eq_getElem?_getD]
    have : p + i < zs.length := by have := h.len; omega
    rw [List.getElem?_eq_getElem this]
    rfl
  · rw [List.getElem?_take, if_neg hi, List.getElem?_map, List.getElem?_take, if_neg hi]; rfl
theorem intL_map (zs : List Int) : intL (zs.map (At.int .i64)) = zs := by
  unfold intL
  rw [List.map_map]
  have : (toI ∘ At.int .i64) = id := by funext v; rfl
  rw [this, List.map_id]
theorem isIntL_map (zs : List Int) : isIntL (zs.map (At.int .i64)) = true := by
  unfold isIntL
  rw [List.all_map, List.all_eq_true]
  intro x _; rfl
theorem allCell_map : ∀ zs : List Int, allCell (zs.map (At.int .i64)) = true
  | [] => rfl
  | z :: zs => by
    show (match (At.int .i64 z).cell with | true => allCell (zs.map (At.int .i64)) | false => false) = true
    exact allCell_map zs
theorem convL_len (arr : Array Value) : (convL arr).length = arr.size := by unfold convL; simp

section
variable {P : Program} {S : FuncId → Option SumK} {z : Md}
/-- A law's run in a memory that is there already: it leaves all blocks as they are. -/
theorem law_mem (hs : Sound P S) {n : Nat} {f : FuncId} {args : List LV} {m : Mem} {nb : Nat} {dec : List (Option Bool)} {v : LV} {cs : List (Bool × Bool)}
    (h : (runF P S z n f args m nb dec).map (fun r => (r.1, m.map (fun q => getM r.2.1 q.1), r.2.2.2)) = some (v, m.map (fun q => some q.2), cs))
    (hc : ∀ c ∈ cs, c.1 = c.2) (hm : memOKb nb m = true) (hz : ∀ q ∈ m, q.2.es = 0) (ha : ∀ u ∈ args, u.ok (below nb) = true) (hv : v.ok noP = true) (E : Env) (w : World) (hrel : Rel E (getM m) w) :
    Calls P f (args.map (LV.den E)).toArray w fun e w' => e = .returned (v.den E0) ∧ Below w.heap.size w w' := by
  cases hr : runF P S z n f args m nb dec with
  | none => rw [hr] at h; cases h
  | some q =>
    obtain ⟨v', m', nb', cs'⟩ := q
    rw [hr] at h
    simp only [Option.map_some, Option.some.injEq, Prod.mk.injEq] at h
    obtain ⟨rfl, hmem, rfl⟩ := h
    obtain ⟨k1, k2⟩ := memOKb_ok hm
    have key : ∀ i b, getM m i = some b → (i, b) ∈ m := by
      intro i b
      clear hmem hrel k1 k2 hm hr hz ha
      induction m with
      | nil => intro h; simp [getM] at h
      | cons q m ih =>
        obtain ⟨j, c⟩ := q
        intro h
        rw [getM_cons] at h
        by_cases hij : i = j
        · rw [if_pos hij] at h; cases h; rw [hij]; exact List.mem_cons_self ..
        · rw [if_neg hij] at h; exact List.mem_cons_of_mem _ (ih h)
    have same : ∀ i b, getM m i = some b → getM m' i = some b := by
      intro i b hb
      have hmm := key i b hb
      obtain ⟨j, hj, he⟩ := List.getElem_of_mem hmm
      have := congrArg (fun l => l[j]?) hmem
      simp only [List.getElem?_map, List.getElem?_eq_getElem hj, Option.map_some, Option.some.injEq] at this
      rw [he] at this
      exact this
    refine (lcl_of_run (m' := m) hs hr (fun i b hb => ⟨same i b hb, k1 i b hb⟩) hc hm ha hv E w hrel).mono ?_
    rintro e w' ⟨rfl, hl⟩
    refine ⟨rfl, hl.os, hl.tape, hl.output, hl.size, fun k hk => ?_⟩
    by_cases hx : ∃ i, (getM m i).isSome ∧ (E i).1 = k
    · obtain ⟨i, hi, rfl⟩ := hx
      obtain ⟨b, hb⟩ := Option.isSome_iff_exists.1 hi
      obtain ⟨r1, g1, g2, g3⟩ := hl.blk i b hb
      obtain ⟨r2, f1, f2, f3⟩ := hrel.blk i b hb
      rw [g1]
      have he := hz _ (key i b hb)
      rw [f1, g2 he, f2 he]
    · exact hl.frame k hk fun i hi he => hx ⟨i, hi, he⟩
end
end Go.Lr

/- The local evaluator: summaries of any functions, made by running them on all blocks that can be got at; new blocks are told by new numbers. -/
namespace Go.Lr
open Go.RowKit

def allLt (nb : Nat) : List Nat → Bool
  | [] => true
  | a :: l => match Nat.blt a nb with
    | true => allLt nb l
    | false => false
def okArgs (p : Nat → Bool) : List LV → Bool
  | [] => true
  | a :: l => match a.ok p with
    | true => okArgs p l
    | false => false
def posN (j : Nat) : Nat → List Nat → Option Nat
  | _, [] => none
  | k, a :: l => match Nat.beq a j with
    | true => some k
    | false => posN j (k + 1) l
def nmG (seen keys : List Nat) (nb : Nat) (i : Nat) : Option Nat :=
  match memB seen i with
  | true => some i
  | false => posN i nb keys
def rnC (φ : Nat → Option Nat) : List (Nat × Nat) → Option (List (Nat × Nat))
  | [] => some []
  | c :: l => match φ c.1, rnC φ l with
    | some b, some r => some ((b, c.2) :: r)
    | _, _ => none
def rnA (φ : Nat → Option Nat) : At → Option At
  | .ptr b o => match φ b with
    | some c => some (.ptr c o)
    | none => none
  | .sl b o n k => match φ b with
    | some c => some (.sl c o n k)
    | none => none
  | .slu b n => match φ b with
    | some c => some (.slu c n)
    | none => none
  | .slx b o n k => match φ b with
    | some c => some (.slx c o n k)
    | none => none
  | .ptx b o => match φ b with
    | some c => some (.ptx c o)
    | none => none
  | .fn f caps => match rnC φ caps with
    | some c => some (.fn f c)
    | none => none
  | a => some a
def rnL (φ : Nat → Option Nat) : List At → Option (List At)
  | [] => some []
  | a :: l => match rnA φ a, rnL φ l with
    | some b, some r => some (b :: r)
    | _, _ => none
def rnV1 (φ : Nat → Option Nat) : V1 → Option V1
  | .one a => match rnA φ a with
    | some b => some (.one b)
    | none => none
  | .agg l => match rnL φ l with
    | some r => some (.agg r)
    | none => none
def rnVs (φ : Nat → Option Nat) : List V1 → Option (List V1)
  | [] => some []
  | a :: l => match rnV1 φ a, rnVs φ l with
    | some b, some r => some (b :: r)
    | _, _ => none
def rnLV (φ : Nat → Option Nat) : LV → Option LV
  | .v x => match rnV1 φ x with
    | some y => some (.v y)
    | none => none
  | .tup l => match rnVs φ l with
    | some r => some (.tup r)
    | none => none
def rnB (φ : Nat → Option Nat) (b : Blk) : Option Blk :=
  match rnL φ b.cells with
  | some l => some ⟨b.ty, b.fr, b.es, l⟩
  | none => none
def rnBs (φ : Nat → Option Nat) : List Blk → Option (List Blk)
  | [] => some []
  | a :: l => match rnB φ a, rnBs φ l with
    | some b, some r => some (b :: r)
    | _, _ => none
def keysGe (nb : Nat) : Mem → List Nat
  | [] => []
  | (j, _) :: m => match Nat.ble nb j with
    | true => j :: keysGe nb m
    | false => keysGe nb m
def zipM : List Nat → List Blk → Mem
  | i :: l, k :: ks => (i, k) :: zipM l ks
  | _, _ => []
def wrsG (φ : Nat → Option Nat) (m : Mem) : List Nat → Option (List (Nat × Option Blk))
  | [] => some []
  | i :: l => match wrsG φ m l with
    | some r => match getM m i with
      | none => some ((i, none) :: r)
      | some b => match rnB φ b with
        | some c => some ((i, some c) :: r)
        | none => none
    | none => none
def outG (seen : List Nat) (nb : Nat) (v : LV) (m' : Mem) (cs : List (Bool × Bool)) (keys : List Nat) : Option Dl :=
  match nodupB keys, liveAll (getM m') keys with
  | true, some bs => match rnLV (nmG seen keys nb) v, wrsG (nmG seen keys nb) m' seen, rnBs (nmG seen keys nb) bs with
    | some v', some ws, some bs' => some ⟨v', ws, bs', seen, cs⟩
    | _, _, _ => none
  | _, _ => none
def autoA (P : Program) (S : FuncId → Option SumK) (z : Md) (n : Nat) (f : FuncId) : List LV → List Nat → List Blk → Nat → Option Dl := fun args seen ks nb =>
  match nodupB seen, allLt nb seen, okArgs (memB seen) args, okBs (memB seen) ks with
  | true, true, true, true => match runF P S z n f args (zipM seen ks) nb [] with
    | some (v, m', _, cs) => outG seen nb v m' cs (keysGe nb m')
    | none => none
  | _, _, _, _ => none

theorem allLt_iff {nb : Nat} : ∀ {l : List Nat}, allLt nb l = true → ∀ i ∈ l, i < nb
  | [], _, i, hi => by cases hi
  | a :: l, h, i, hi => by
    simp only [allLt, nblt] at h
    split at h
    · rename_i ha
      have ha' : a < nb := by simpa using ha
      rcases List.mem_cons.1 hi with rfl | hi
      · exact ha'
      · exact allLt_iff h i hi
    · cases h
theorem okArgs_iff {p : Nat → Bool} : ∀ {l : List LV}, okArgs p l = true → ∀ v ∈ l, v.ok p = true
  | [], _, i, hi => by cases hi
  | a :: l, h, i, hi => by
    simp only [okArgs] at h
    split at h
    · rename_i ha
      rcases List.mem_cons.1 hi with rfl | hi
      · exact ha
      · exact okArgs_iff h i hi
    · cases h
theorem posN_spec {j : Nat} : ∀ {l : List Nat} {k i : Nat}, posN j k l = some i → k ≤ i ∧ i < k + l.length ∧ l[i - k]? = some j
  | [], k, i, h => by simp [posN] at h
  | a :: l, k, i, h => by
    simp only [posN, nbeq] at h
    split at h
    · rename_i ha
      have ha' : a = j := by simpa using ha
      cases h
      subst ha'
      exact ⟨Nat.le_refl _, by simp, by simp⟩
    · obtain ⟨h1, h2, h3⟩ := posN_spec h
      refine ⟨by omega, by simp; omega, ?_⟩
      rw [show i - k = (i - (k + 1)) + 1 by omega, List.getElem?_cons_succ]
      exact h3

section
variable {φ : Nat → Option Nat} {E E' : Env}
theorem rnC_den (hφ : ∀ i c, φ i = some c → E' c = E i) : ∀ {l r : List (Nat × Nat)}, rnC φ l = some r → l.map (fun p => Value.pointer (some ⟨(E p.1).1, p.2, none⟩)) = r.map (fun p => Value.pointer (some ⟨(E' p.1).1, p.2, none⟩))
  | [], r, h => by simp only [rnC] at h; cases h; rfl
  | c :: l, r, h => by
    simp only [rnC] at h
    split at h
    · rename_i b r' hb hr
      cases h
      simp only [List.map_cons, hφ _ _ hb, rnC_den hφ hr]
    · cases h
theorem rnA_den (hφ : ∀ i c, φ i = some c → E' c = E i) {a b : At} (h : rnA φ a = some b) : a.den E = b.den E' := by
  unfold rnA at h
  split at h
  · split at h
    · rename_i hc; cases h; simp only [At.den, hφ _ _ hc]
    · cases h
  · split at h
    · rename_i hc; cases h; simp only [At.den, hφ _ _ hc]
    · cases h
  · split at h
    · rename_i hc; cases h; simp only [At.den, hφ _ _ hc]
    · cases h
  · split at h
    · rename_i hc; cases h; simp only [At.den, hφ _ _ hc]
    · cases h
  · split at h
    · rename_i hc; cases h; simp only [At.den, hφ _ _ hc]
    · cases h
  · split at h
    · rename_i hc; cases h; simp only [At.den, rnC_den hφ hc]
    · cases h
  · rename_i h1 h2 h3 h4 h5 h6
    cases h
    cases a with
    | ptr b o => exact absurd rfl (h1 b o)
    | sl b o n c => exact absurd rfl (h2 b o n c)
    | slu b n => exact absurd rfl (h3 b n)
    | slx b o n c => exact absurd rfl (h4 b o n c)
    | ptx b o => exact absurd rfl (h5 b o)
    | fn f c => exact absurd rfl (h6 f c)
    | _ => rfl
theorem rnL_den (hφ : ∀ i c, φ i = some c → E' c = E i) : ∀ {l r : List At}, rnL φ l = some r → l.map (At.den E) = r.map (At.den E')
  | [], r, h => by simp only [rnL] at h; cases h; rfl
  | c :: l, r, h => by
    simp only [rnL] at h
    split at h
    · rename_i b r' hb hr
      cases h
      simp only [List.map_cons, rnA_den hφ hb, rnL_den hφ hr]
    · cases h
theorem rnL_len : ∀ {l r : List At}, rnL φ l = some r → r.length = l.length
  | [], r, h => by simp only [rnL] at h; cases h; rfl
  | c :: l, r, h => by
    simp only [rnL] at h
    split at h
    · rename_i b r' hb hr
      cases h
      simp only [List.length_cons, rnL_len hr]
    · cases h
theorem rnV1_den (hφ : ∀ i c, φ i = some c → E' c = E i) {a b : V1} (h : rnV1 φ a = some b) : a.den E = b.den E' := by
  unfold rnV1 at h
  split at h
  · split at h
    · rename_i hb; cases h; exact rnA_den hφ hb
    · cases h
  · split at h
    · rename_i hb; cases h; simp only [V1.den, rnL_den hφ hb]
    · cases h
theorem rnVs_den (hφ : ∀ i c, φ i = some c → E' c = E i) : ∀ {l r : List V1}, rnVs φ l = some r → l.map (V1.den E) = r.map (V1.den E')
  | [], r, h => by simp only [rnVs] at h; cases h; rfl
  | c :: l, r, h => by
    simp only [rnVs] at h
    split at h
    · rename_i b r' hb hr
      cases h
      simp only [List.map_cons, rnV1_den hφ hb, rnVs_den hφ hr]
    · cases h
theorem rnLV_den (hφ : ∀ i c, φ i = some c → E' c = E i) {a b : LV} (h : rnLV φ a = some b) : a.den E = b.den E' := by
  unfold rnLV at h
  split at h
  · split at h
    · rename_i hb; cases h; exact rnV1_den hφ hb
    · cases h
  · split at h
    · rename_i hb; cases h; simp only [LV.den, rnVs_den hφ hb]
    · cases h
theorem rnB_at (hφ : ∀ i c, φ i = some c → E' c = E i) {b c : Blk} {i j : Nat} {w : World} (h : rnB φ b = some c) (he : E' j = E i) (hb : blkAt E i b w) : blkAt E' j c w := by
  unfold rnB at h
  split at h
  · rename_i l hl
    cases h
    obtain ⟨r, h1, h2, h3⟩ := hb
    refine ⟨r, ?_, h2, fun hz => ?_⟩
    · show w.heap[(E' j).1]? = some (.cells (l.map (At.den E') ++ r).toArray b.ty b.fr)
      rw [he, ← rnL_den hφ hl]; exact h1
    · show l.length + r.length = (E' j).2 * b.es
      rw [he, rnL_len hl]; exact h3 hz
  · cases h
end

theorem rnBs_get {φ : Nat → Option Nat} : ∀ {l r : List Blk}, rnBs φ l = some r → r.length = l.length ∧ ∀ (i : Nat) (c : Blk), r[i]? = some c → ∃ b, l[i]? = some b ∧ rnB φ b = some c
  | [], r, h => by
    simp only [rnBs] at h; cases h
    exact ⟨rfl, fun i c hc => by simp at hc⟩
  | b :: l, r, h => by
    simp only [rnBs] at h
    split at h
    · rename_i c r' hb hr
      cases h
      obtain ⟨h1, h2⟩ := rnBs_get hr
      refine ⟨by simp [h1], fun i d hd => ?_⟩
      cases i with
      | zero => simp only [List.getElem?_cons_zero, Option.some.injEq] at hd ⊢; subst hd; exact ⟨b, rfl, hb⟩
      | succ i => simp only [List.getElem?_cons_succ] at hd ⊢; exact h2 i d hd
    · cases h
theorem liveAll_get {g : Nat → Option Blk} : ∀ {l : List Nat} {r : List Blk}, liveAll g l = some r → r.length = l.length ∧ ∀ (i : Nat) (j : Nat), l[i]? = some j → ∃ b, r[i]? = some b ∧ g j = some b
  | [], r, h => by
    simp only [liveAll] at h; cases h
    exact ⟨rfl, fun i c hc => by simp at hc⟩
  | a :: l, r, h => by
    simp only [liveAll] at h
    split at h
    · rename_i k r' hk hr
      cases h
      obtain ⟨h1, h2⟩ := liveAll_get hr
      refine ⟨by simp [h1], fun i j hj => ?_⟩
      cases i with
      | zero => simp only [List.getElem?_cons_zero, Option.some.injEq] at hj ⊢; subst hj; exact ⟨k, rfl, hk⟩
      | succ i => simp only [List.getElem?_cons_succ] at hj ⊢; exact h2 i j hj
    · cases h
theorem getM_zipM {g : Nat → Option Blk} : ∀ {l : List Nat} {ks : List Blk}, liveAll g l = some ks → ∀ i, getM (zipM l ks) i = if i ∈ l then g i else none
  | [], ks, h, i => by simp only [liveAll] at h; cases h; simp [zipM, getM]
  | a :: l, ks, h, i => by
    simp only [liveAll] at h
    split at h
    · rename_i k r hk hr
      cases h
      simp only [zipM]
      rw [getM_cons, getM_zipM hr]
      by_cases hi : i = a
      · subst hi; simp [hk]
      · simp [hi]
    · cases h
theorem uniq_zipM {g : Nat → Option Blk} : ∀ {l : List Nat} {ks : List Blk}, liveAll g l = some ks → l.Nodup → uniq (zipM l ks)
  | [], ks, h, _ => by simp only [liveAll] at h; cases h; trivial
  | a :: l, ks, h, hn => by
    simp only [liveAll] at h
    split at h
    · rename_i k r hk hr
      cases h
      rw [List.nodup_cons] at hn
      refine ⟨?_, uniq_zipM hr hn.2⟩
      rw [getM_zipM hr, if_neg hn.1]
    · cases h
theorem keysGe_ge (nb : Nat) : ∀ (m : Mem), ∀ j ∈ keysGe nb m, nb ≤ j
  | [], j, hj => by cases hj
  | (a, b) :: m, j, hj => by
    simp only [keysGe] at hj
    split at hj
    · rename_i ha
      rcases List.mem_cons.1 hj with rfl | hj
      · exact Nat.le_of_ble_eq_true ha
      · exact keysGe_ge nb m j hj
    · exact keysGe_ge nb m j hj
theorem wrsG_spec {φ : Nat → Option Nat} {m : Mem} : ∀ {l : List Nat} {ws : List (Nat × Option Blk)}, wrsG φ m l = some ws → ws.map (·.1) = l ∧ ∀ x ∈ ws, (x.2 = none) ∨ ∃ b c, getM m x.1 = some b ∧ rnB φ b = some c ∧ x.2 = some c
  | [], ws, h => by simp only [wrsG] at h; cases h; exact ⟨rfl, fun x hx => by cases hx⟩
  | i :: l, ws, h => by
    simp only [wrsG] at h
    split at h
    · rename_i r hr
      obtain ⟨h1, h2⟩ := wrsG_spec hr
      split at h
      · cases h
        refine ⟨by simp [h1], fun x hx => ?_⟩
        rcases List.mem_cons.1 hx with rfl | hx
        · exact .inl rfl
        · exact h2 x hx
      · rename_i b hb
        split at h
        · rename_i c hc
          cases h
          refine ⟨by simp [h1], fun x hx => ?_⟩
          rcases List.mem_cons.1 hx with rfl | hx
          · exact .inr ⟨b, c, hb, hc, rfl⟩
          · exact h2 x hx
        · cases h
    · cases h
theorem wrG_in {g : Nat → Option Blk} : ∀ (l : List (Nat × Option Blk)), (l.map (·.1)).Nodup → ∀ x ∈ l, wrG g l x.1 = x.2
  | [], _, x, hx => by cases hx
  | (i, s) :: l, hn, x, hx => by
    simp only [List.map_cons, List.nodup_cons] at hn
    simp only [wrG]
    rcases List.mem_cons.1 hx with rfl | hx
    · rw [wrG_none]
      · simp
      · intro y hy e
        exact hn.1 (by have h := List.mem_map_of_mem (f := fun x : Nat × Option Blk => x.1) hy; rw [e] at h; exact h)
    · exact wrG_in l hn.2 x hx
theorem nwG_at {g : Nat → Option Blk} : ∀ (l : List Blk) (nb k : Nat), nb ≤ k → k < nb + l.length → nwG g nb l k = l[k - nb]?
  | [], nb, k, h1, h2 => by simp at h2; omega
  | b :: l, nb, k, h1, h2 => by
    simp only [nwG]
    by_cases hk : k = nb
    · subst hk
      rw [nwG_none l (k + 1) k (by omega)]
      simp
    · rw [nwG_at l (nb + 1) k (by omega) (by simp at h2; omega), show k - nb = (k - (nb + 1)) + 1 by omega, List.getElem?_cons_succ]

section
variable {P : Program} {S : FuncId → Option SumK} {z : Md}
theorem autoA_ok (hs : Sound P S) {n : Nat} {f : FuncId} (ho : Own P f) : GenOK P f (autoA P S z n f) := by
  intro args seen ks g nb p d E w hl hd hnd hc hrel hg hargs hn
  unfold autoA at hd
  split at hd
  · rename_i c1 c2 c3 c4
    have k1 := nodupB_iff.1 c1
    have k2 := allLt_iff c2
    have k3 := okArgs_iff c3
    have k4 := okBs_iff.1 c4
    split at hd
    · rename_i v m' nb' cs hrun
      unfold outG at hd
      split at hd
      · rename_i bs hkd hbs
        split at hd
        · rename_i v' ws bs' hv' hws hbs'
          cases hd
          have kn := nodupB_iff.1 hkd
          obtain ⟨s', h1, h2, h3, h4⟩ := runF_body hrun
          have hsub : ∀ i c, getM (zipM seen ks) i = some c → i ∈ seen ∧ g i = some c := by
            intro i c hc
            rw [getM_zipM hl] at hc
            split at hc
            · rename_i hi; exact ⟨hi, hc⟩
            · cases hc
          have hbel : ∀ i, memB seen i = true → below nb i = true := fun i hi => by
            simp only [below, decide_eq_true_eq]; exact k2 i (memB_iff.1 hi)
          have hcell : ∀ i c, getM (zipM seen ks) i = some c → i < nb ∧ okL (below nb) c.cells = true := by
            intro i c hc
            obtain ⟨hi, hgi⟩ := hsub i c hc
            refine ⟨k2 i hi, okL_mono hbel ?_⟩
            obtain ⟨_, h6⟩ := liveAll_get hl
            obtain ⟨t, ht, hti⟩ := List.getElem_of_mem hi
            obtain ⟨b, hb, hgb⟩ := h6 t i (by rw [List.getElem?_eq_getElem ht, hti])
            rw [hgi] at hgb
            cases hgb
            exact k4 c (List.mem_of_getElem? hb)
          obtain ⟨v0, b1, b2, b3, b4, b5, b6, b7, b8⟩ := (exec_sound (binOK P) hs.sums hs.mix hs.ng n).2.2.2 f args _ _ s' h1 hcell (uniq_zipM hl k1) (fun u hu => LV.ok_mono hbel (k3 u hu))
          cases b1
          have hmr : MRel E ⟨.nil, 0, zipM seen ks, nb, [], []⟩ w := ⟨hrel.sub fun i b hb => (hsub i b hb).2, hcell, uniq_zipM hl k1⟩
          have hcall := b8 (by rw [Good, h4]; exact hc) E w hmr
          obtain ⟨fn, f1, f2, f3⟩ := ho
          refine .inl ⟨fn, f1, f2, f3, hcall.mono ?_⟩
          rintro e w' ⟨Eo, rfl, hmr', hx⟩
          have hrel' := hmr'.rel
          rw [h2] at hrel'
          have hsrc := hx.src
          rw [h2] at hsrc
          have hagr : ∀ i, i < nb → Eo i = E i := hx.agree
          have hge := keysGe_ge nb m'
          obtain ⟨l1, l2⟩ := liveAll_get hbs
          obtain ⟨q1, q2⟩ := rnBs_get hbs'
          obtain ⟨y1, y2⟩ := wrsG_spec hws
          generalize hK : keysGe nb m' = keys at *
          have hlen : bs'.length = keys.length := by rw [q1, l1]
          generalize hE' : (fun i => if i < nb then E i else match keys[i - nb]? with
            | some j => Eo j
            | none => E i) = E'
          have Elt : ∀ i, i < nb → E' i = E i := fun i hi => by rw [← hE']; simp [hi]
          have Ege : ∀ i j, nb ≤ i → keys[i - nb]? = some j → E' i = Eo j := fun i j hi hj => by
            rw [← hE']; simp only [show ¬ i < nb by omega, if_false, hj]
          have Eout : ∀ i, nb + bs'.length ≤ i → E' i = E i := fun i hi => by
            rw [← hE']
            simp only [show ¬ i < nb by omega, if_false]
            rw [List.getElem?_eq_none (by omega)]
          have hφ : ∀ i c, nmG seen keys nb i = some c → E' c = Eo i := by
            intro i c hic
            unfold nmG at hic
            split at hic
            · rename_i hi
              cases hic
              have hlt := k2 _ (memB_iff.1 hi)
              rw [Elt _ hlt, hagr _ hlt]
            · obtain ⟨p1, p2, p3⟩ := posN_spec hic
              exact Ege c i p1 p3
          have hsome : ∀ i ∈ seen, ∃ c, g i = some c := fun i hi => Option.isSome_iff_exists.1 (liveAll_some hl i hi)
          have hgnew : ∀ i c, g i = some c → i < nb ∨ nb + bs'.length ≤ i := by
            intro i c hi
            by_cases h5 : i < nb
            · exact .inl h5
            · by_cases h6 : nb + bs'.length ≤ i
              · exact .inr h6
              · exfalso
                have := (hg i c hi).1
                rw [hn i (by omega) (by show i < nb + bs'.length; omega)] at this
                cases this
          have Eold : ∀ i c, g i = some c → E' i = E i := fun i c hi => (hgnew i c hi).elim (Elt i) (Eout i)
          have hlt : ∀ i c, g i = some c → (E i).1 < w.heap.size := fun i c hi => by
            obtain ⟨r, u1, -⟩ := hrel.blk i c hi
            exact (Array.getElem?_eq_some_iff.1 u1).1
          have hpE : ∀ i, p i = true → E' i = E i := by
            intro i hi
            by_cases h5 : i < nb
            · exact Elt i h5
            · refine Eout i ?_
              by_cases h6 : nb + bs'.length ≤ i
              · exact h6
              · exfalso
                rw [hn i (by omega) (by show i < nb + bs'.length; omega)] at hi
                cases hi
          have hwk : (ws.map (·.1)).Nodup := by rw [y1]; exact k1
          -- what lies at a number behind the call
          have hat : ∀ i b, nwG (wrG g ws) nb bs' i = some b →
              (∃ j b0, nb ≤ i ∧ i < nb + bs'.length ∧ keys[i - nb]? = some j ∧ getM m' j = some b0 ∧ rnB (nmG seen keys nb) b0 = some b) ∨
              (i ∈ seen ∧ ∃ b0, getM m' i = some b0 ∧ rnB (nmG seen keys nb) b0 = some b) ∨ (i ∉ seen ∧ g i = some b) := by
            intro i b hb
            by_cases hi : nb ≤ i ∧ i < nb + bs'.length
            · left
              rw [nwG_at _ _ _ hi.1 hi.2] at hb
              obtain ⟨b0, hb0, hr0⟩ := q2 _ _ hb
              have hkl : i - nb < keys.length := by omega
              obtain ⟨b1, hb1, hg1⟩ := l2 (i - nb) keys[i - nb] (List.getElem?_eq_getElem hkl)
              rw [hb0] at hb1
              cases hb1
              exact ⟨keys[i - nb], b0, hi.1, hi.2, List.getElem?_eq_getElem hkl, hg1, hr0⟩
            · right
              rw [nwG_none _ _ _ (by omega)] at hb
              by_cases hs2 : i ∈ seen
              · left
                refine ⟨hs2, ?_⟩
                rw [← y1] at hs2
                obtain ⟨x, hx1, hx2⟩ := List.mem_map.1 hs2
                rw [← hx2, wrG_in ws hwk x hx1] at hb
                rcases y2 x hx1 with hz | ⟨b0, c, z1, z2, z3⟩
                · rw [hz] at hb; cases hb
                · rw [z3] at hb
                  cases hb
                  exact ⟨b0, by rw [← hx2]; exact z1, z2⟩
              · right
                refine ⟨hs2, ?_⟩
                rw [wrG_none] at hb
                · exact hb
                · intro x hx1 e
                  exact hs2 (by rw [← y1, ← e]; exact List.mem_map_of_mem hx1)
          have hframe : ∀ b, b < w.heap.size → (∀ i ∈ seen, (E i).1 ≠ b) → w'.heap[b]? = w.heap[b]? := fun b hb hne => hx.frame b hb fun i hi he => by
            obtain ⟨c, hc⟩ := Option.isSome_iff_exists.1 hi
            exact hne i (hsub i c hc).1 he
          have hnew : ∀ j b0, getM m' j = some b0 → w.heap.size ≤ (Eo j).1 ∨ ∃ i ∈ seen, (Eo j).1 = (E i).1 := by
            intro j b0 hj
            rcases hsrc j (by rw [hj]; rfl) with h | ⟨i, hi, he⟩
            · exact .inl h
            · obtain ⟨c, hc⟩ := Option.isSome_iff_exists.1 hi
              exact .inr ⟨i, (hsub i c hc).1, he⟩
          -- the number in the callee's memory
          have hcal : ∀ i b, nwG (wrG g ws) nb bs' i = some b → (∃ j b0, getM m' j = some b0 ∧ E' i = Eo j ∧ (nb ≤ i ∧ i < nb + bs'.length ∧ keys[i - nb]? = some j ∨ i ∈ seen ∧ j = i)) ∨ (i ∉ seen ∧ g i = some b) := by
            intro i b hb
            rcases hat i b hb with ⟨j, b0, a1, a2, a3, a4, a5⟩ | ⟨a1, b0, a2, a3⟩ | ⟨a1, a2⟩
            · exact .inl ⟨j, b0, a4, Ege i j a1 a3, .inl ⟨a1, a2, a3⟩⟩
            · exact .inl ⟨i, b0, a2, by rw [Elt i (k2 i a1), hagr i (k2 i a1)], .inr ⟨a1, rfl⟩⟩
            · exact .inr ⟨a1, a2⟩
          refine ⟨_, rfl, E', rnLV_den hφ hv', ?_⟩
          refine ⟨fun i hi => ?_, ⟨fun i b hb => ?_, fun i i2 hi hi2 he => ?_⟩, hx.os, hx.tape, hx.output, hx.size, fun b hb hne => hframe b hb fun i hi he => ?_, fun i h5 h6 => ?_⟩
          · rcases hi with hi | hi
            · exact Elt i hi
            · exact Eout i hi
          · rcases hat i b hb with ⟨j, b0, a1, a2, a3, a4, a5⟩ | ⟨a1, b0, a2, a3⟩ | ⟨a1, a2⟩
            · exact rnB_at hφ a5 (Ege i j a1 a3) (hrel'.blk j b0 a4)
            · exact rnB_at hφ a3 (by rw [Elt i (k2 i a1), hagr i (k2 i a1)]) (hrel'.blk i b0 a2)
            · obtain ⟨r, u1, u2, u3⟩ := hrel.blk i b a2
              refine ⟨r, ?_, u2, fun hz => by rw [Eold i b a2]; exact u3 hz⟩
              rw [Eold i b a2, hframe _ (hlt i b a2) (fun j hj e => ?_), u1, denL_congr (p := p) hpE (hg i b a2).2]
              obtain ⟨c, hc2⟩ := hsome j hj
              have := hrel.inj j i (by rw [hc2]; rfl) (by rw [a2]; rfl) e
              exact a1 (this ▸ hj)
          · obtain ⟨b, hb⟩ := Option.isSome_iff_exists.1 hi
            obtain ⟨b2', hb2⟩ := Option.isSome_iff_exists.1 hi2
            -- a callee's number and an old one apart
            have apart : ∀ (j : Nat) (b0 : Blk) (t : Nat) (c : Blk), getM m' j = some b0 → t ∉ seen → g t = some c → (Eo j).1 ≠ (E t).1 := by
              intro j b0 t c hj ht hgt e
              rcases hnew j b0 hj with h | ⟨i0, hi0, e0⟩
              · have := hlt t c hgt; omega
              · obtain ⟨c0, hc0⟩ := hsome i0 hi0
                have := hrel.inj i0 t (by rw [hc0]; rfl) (by rw [hgt]; rfl) (by rw [← e0, e])
                exact ht (this ▸ hi0)
            rcases hcal i b hb with ⟨j, b0, a1, a2, a3⟩ | ⟨a1, a2⟩
            · rcases hcal i2 b2' hb2 with ⟨j2, b3, d1, d2, d3⟩ | ⟨d1, d2⟩
              · rw [a2, d2] at he
                have hjj := hrel'.inj j j2 (by rw [a1]; rfl) (by rw [d1]; rfl) he
                subst hjj
                rcases a3 with ⟨e1, e2, e3⟩ | ⟨e1, e2⟩
                · rcases d3 with ⟨g1, g2, g3⟩ | ⟨g1, g2⟩
                  · have h7 : i - nb < keys.length := by omega
                    have h8 : i2 - nb < keys.length := by omega
                    have e4 : keys[i - nb] = j := by rw [List.getElem?_eq_getElem h7] at e3; exact Option.some.inj e3
                    have g4 : keys[i2 - nb] = j := by rw [List.getElem?_eq_getElem h8] at g3; exact Option.some.inj g3
                    have := (List.getElem_inj (h₀ := h7) (h₁ := h8) kn).1 (by rw [e4, g4])
                    omega
                  · exfalso
                    have h7 := hge j (List.mem_of_getElem? e3)
                    have h8 := k2 i2 g1
                    omega
                · rcases d3 with ⟨g1, g2, g3⟩ | ⟨g1, g2⟩
                  · exfalso
                    have h7 := hge j (List.mem_of_getElem? g3)
                    have h8 := k2 i e1
                    omega
                  · omega
              · exfalso
                rw [a2, Eold i2 b2' d2] at he
                exact apart j b0 i2 b2' a1 d1 d2 he
            · rcases hcal i2 b2' hb2 with ⟨j2, b3, d1, d2, d3⟩ | ⟨d1, d2⟩
              · exfalso
                rw [d2, Eold i b a2] at he
                exact apart j2 b3 i b d1 a1 a2 he.symm
              · rw [Eold i b a2, Eold i2 b2' d2] at he
                exact hrel.inj i i2 (by rw [a2]; rfl) (by rw [d2]; rfl) he
          · obtain ⟨c, hc2⟩ := hsome i hi
            exact hne i (by rw [hc2]; rfl) he
          · have h6' : i < nb + bs'.length := h6
            have hkl : i - nb < keys.length := by omega
            have hk := List.getElem?_eq_getElem hkl
            obtain ⟨b1, hb1, hg1⟩ := l2 (i - nb) _ hk
            rw [Ege i _ h5 hk]
            rcases hnew _ b1 hg1 with h | ⟨i0, hi0, e0⟩
            · exact .inl h
            · obtain ⟨c, hc2⟩ := hsome i0 hi0
              exact .inr ⟨i0, by rw [hc2]; rfl, e0⟩
        · cases hd
      · cases hd
    · cases hd
  · cases hd

end
/-- A summary more, of this kind. -/
def moreG (S : FuncId → Option SumK) (f : FuncId) (s : List LV → List Nat → List Blk → Nat → Option Dl) : FuncId → Option SumK := fun g =>
  match Nat.beq g f with
  | true => some (.gen s)
  | false => S g
section
variable {P : Program} {S : FuncId → Option SumK}
theorem Sound.moreG (h : Sound P S) {f : FuncId} {s : List LV → List Nat → List Blk → Nat → Option Dl} (hs : GenOK P f s) : Sound P (Go.Lr.moreG S f s) := by
  refine ⟨fun g t hg => ?_, h.mix, h.ng⟩
  unfold Go.Lr.moreG at hg
  split at hg
  · rename_i he
    cases hg
    rw [nbeq] at he
    have : g = f := by simpa using he
    subst this
    exact hs
  · exact h.sums g t hg
end
end Go.Lr

/- A summary less: the function is walked into again. -/
namespace Go.Lr
def dropS (S : FuncId → Option SumK) (f : FuncId) : FuncId → Option SumK := fun g =>
  match Nat.beq g f with
  | true => none
  | false => S g
theorem Sound.drop {P : Program} {S : FuncId → Option SumK} (h : Sound P S) (f : FuncId) : Sound P (dropS S f) := by
  refine ⟨fun g t hg => ?_, h.mix, h.ng⟩
  unfold dropS at hg
  split at hg
  · cases hg
  · exact h.sums g t hg
/-- Lists of decisions: so many that the kernel knows, so many that are true, false. -/
def nn : Nat → List (Option Bool) → List (Option Bool)
  | 0, l => l
  | n + 1, l => none :: nn n l
def tt : Nat → List (Option Bool) → List (Option Bool)
  | 0, l => l
  | n + 1, l => some true :: tt n l
def ff : Nat → List (Option Bool) → List (Option Bool)
  | 0, l => l
  | n + 1, l => some false :: ff n l
/-- The same asked so often. -/
def ra : Nat → Bool × Bool → List (Bool × Bool) → List (Bool × Bool)
  | 0, _, l => l
  | n + 1, c, l => c :: ra n c l
theorem ra_ok {c : Bool × Bool} {l : List (Bool × Bool)} (h : c.1 = c.2) (hl : ∀ d ∈ l, d.1 = d.2) : ∀ (n : Nat), ∀ d ∈ ra n c l, d.1 = d.2
  | 0 => hl
  | n + 1 => by
    intro d hd
    simp only [ra, List.mem_cons] at hd
    rcases hd with rfl | hd
    · exact h
    · exact ra_ok h hl n d hd
end Go.Lr

/- What the laws with lists run on: the scalars, roots, dots, and their folders' awakes. -/
namespace Go.Proofs.Ytnabopepomjncaa
open Go.Lr
noncomputable def S58 : FuncId → Option SumK := more (more S21 11 (pureSum trueF)) 32 (pureSum trueF)
theorem sound58 : Sound Try.prog S58 := (sound21.more sumAwakeB).more sumAwakeC
end Go.Proofs.Ytnabopepomjncaa

/- fx.Merge: what its rounds start from and come to. -/
namespace Go.Proofs.Ytnabopepomjncaa
open Go.Lr Go.RowKit
set_option linter.unusedVariables false
set_option linter.unusedSimpArgs false

def tabA {α : Type} (f : Nat → α) : Nat → List α
  | 0 => []
  | n + 1 => f n :: tabA f n
def tabB {α : Type} (f : Nat → α) : Nat → List α
  | 0 => []
  | n + 1 => f n :: tabB f n
theorem tab_eq {α : Type} {f g : Nat → α} : ∀ {n : Nat}, tabA f n = tabB g n → ∀ i, i < n → f i = g i
  | 0, _, i, h => absurd h (Nat.not_lt_zero i)
  | n + 1, e, i, h => by
    simp only [tabA, tabB, List.cons.injEq] at e
    by_cases q : i = n
    · rw [q]; exact e.1
    · exact tab_eq e.2 i (by omega)
abbrev FL (b : Bool) : Blk := flag 26 b
def SLU (b n : Nat) : LV := .v (.one (.slu b n))
def P1v : LV := .v (.one (.ptr 1 0))
/-- The flags' places, the last one first; their blocks; the list of their places. -/
def accD : Nat → List Nat
  | 0 => []
  | n + 1 => (3 * n + 2) :: accD n
def accK (x : Nat → Bool) : Nat → List Blk
  | 0 => []
  | n + 1 => FL (x n) :: accK x n
def ptrU : Nat → Nat → List At
  | _, 0 => []
  | j, n + 1 => .ptr (3 * j + 2) 0 :: ptrU (j + 1) n
def lstB (n : Nat) : Blk := ⟨24, (0, 0), 1, ptrU 0 n⟩
def mgD (n : Nat) : List Nat := accD n ++ [3 * n + 1, 1]
def mgK (x : Nat → Bool) (n : Nat) (h : Bool) : List Blk := accK x n ++ [lstB n, FL h]
def orN (x : Nat → Bool) (h : Bool) : Nat → Bool
  | 0 => h
  | n + 1 => orN x h n || x n
noncomputable def mgL : Code := c1 (c1 (c2 (bodyF Try.prog 14)))
def mgS0 (x : Nat → Bool) (n : Nat) (h : Bool) (j : Nat) : Kst := ⟨[(0, P1v), (6, SLU (3 * n + 1) n), (7, I (Int.ofNat n)), (8, I (Int.ofNat j))], (mgD n).zip (mgK x n h), 3 * n + 2⟩
theorem mgA (dead : Nat → Value) (x : Nat → Bool) (h : Bool) : tabA (fun k => projS [0,6,7,8] (mgD (k + 1)) (exec Try.prog S58 Zl 400 (.code (c1 (bodyF Try.prog 14))) (Kst.st ⟨argsL 0 [P1v, SLU (3 * (k + 1) + 1) (k + 1)], (mgD (k + 1)).zip (mgK x (k + 1) h), 3 * (k + 1) + 2⟩ 26 dead []))) 50 = tabB (fun k => some (Ex.normal, [P1v, SLU (3 * (k + 1) + 1) (k + 1), I (Int.ofNat (k + 1)), I (Int.ofNat 0)], (mgK x (k + 1) h).map some, [])) 50 := by kernel_rfl
theorem mgX (dead : Nat → Value) (x : Nat → Bool) (h : Bool) : tabA (fun k => projS [0] (mgD (k + 1)) (exec Try.prog S58 Zl 400 (.code mgL) (Kst.st (mgS0 x (k + 1) h (k + 1)) 26 dead []))) 50 = tabB (fun k => some (Ex.exit 0, [P1v], (mgK x (k + 1) h).map some, [])) 50 := by kernel_rfl
theorem mgM (x : Nat → Bool) (h : Bool) : tabA (fun k => memOKb (3 * (k + 1) + 2) ((mgD (k + 1)).zip (mgK x (k + 1) h))) 50 = tabB (fun _ => true) 50 := by kernel_rfl
theorem mgV (j : Nat) : tabA (fun k => liveOKb (3 * (k + 1) + 2) (mgS0 (fun _ => false) (k + 1) false j).live) 50 = tabB (fun _ => true) 50 := by kernel_rfl
theorem mgW : tabA (fun k => liveOKb (3 * (k + 1) + 2) [(0, P1v)]) 50 = tabB (fun _ => true) 50 := by kernel_rfl
theorem mgAr : tabA (fun k => okArgs (below (3 * (k + 1) + 2)) [P1v, SLU (3 * (k + 1) + 1) (k + 1)]) 50 = tabB (fun _ => true) 50 := by kernel_rfl
end Go.Proofs.Ytnabopepomjncaa

/- fx.Merge: its rounds where the flag is true. -/
namespace Go.Proofs.Ytnabopepomjncaa
open Go.Lr Go.RowKit
set_option linter.unusedVariables false
set_option linter.unusedSimpArgs false

theorem mgT0 (dead : Nat → Value) (x : Nat → Bool) : tabA (fun q => tabA (fun j => projS [0,6,7,8] (mgD (0 + q + 1)) (exec Try.prog S58 Zl 400 (.code mgL) (Kst.st (mgS0 x (0 + q + 1) true j) 26 dead []))) (0 + q + 1)) 20 = tabB (fun q => tabB (fun j => some (Ex.normal, [P1v, SLU (3 * (0 + q + 1) + 1) (0 + q + 1), I (Int.ofNat (0 + q + 1)), I (wr .i64 (Int.ofNat j + 1))], (mgK x (0 + q + 1) true).map some, [])) (0 + q + 1)) 20 := by kernel_rfl
theorem mgT1 (dead : Nat → Value) (x : Nat → Bool) : tabA (fun q => tabA (fun j => projS [0,6,7,8] (mgD (20 + q + 1)) (exec Try.prog S58 Zl 400 (.code mgL) (Kst.st (mgS0 x (20 + q + 1) true j) 26 dead []))) (20 + q + 1)) 10 = tabB (fun q => tabB (fun j => some (Ex.normal, [P1v, SLU (3 * (20 + q + 1) + 1) (20 + q + 1), I (Int.ofNat (20 + q + 1)), I (wr .i64 (Int.ofNat j + 1))], (mgK x (20 + q + 1) true).map some, [])) (20 + q + 1)) 10 := by kernel_rfl
theorem mgT2 (dead : Nat → Value) (x : Nat → Bool) : tabA (fun q => tabA (fun j => projS [0,6,7,8] (mgD (30 + q + 1)) (exec Try.prog S58 Zl 400 (.code mgL) (Kst.st (mgS0 x (30 + q + 1) true j) 26 dead []))) (30 + q + 1)) 7 = tabB (fun q => tabB (fun j => some (Ex.normal, [P1v, SLU (3 * (30 + q + 1) + 1) (30 + q + 1), I (Int.ofNat (30 + q + 1)), I (wr .i64 (Int.ofNat j + 1))], (mgK x (30 + q + 1) true).map some, [])) (30 + q + 1)) 7 := by kernel_rfl
theorem mgT3 (dead : Nat → Value) (x : Nat → Bool) : tabA (fun q => tabA (fun j => projS [0,6,7,8] (mgD (37 + q + 1)) (exec Try.prog S58 Zl 400 (.code mgL) (Kst.st (mgS0 x (37 + q + 1) true j) 26 dead []))) (37 + q + 1)) 7 = tabB (fun q => tabB (fun j => some (Ex.normal, [P1v, SLU (3 * (37 + q + 1) + 1) (37 + q + 1), I (Int.ofNat (37 + q + 1)), I (wr .i64 (Int.ofNat j + 1))], (mgK x (37 + q + 1) true).map some, [])) (37 + q + 1)) 7 := by kernel_rfl
theorem mgT4 (dead : Nat → Value) (x : Nat → Bool) : tabA (fun q => tabA (fun j => projS [0,6,7,8] (mgD (44 + q + 1)) (exec Try.prog S58 Zl 400 (.code mgL) (Kst.st (mgS0 x (44 + q + 1) true j) 26 dead []))) (44 + q + 1)) 6 = tabB (fun q => tabB (fun j => some (Ex.normal, [P1v, SLU (3 * (44 + q + 1) + 1) (44 + q + 1), I (Int.ofNat (44 + q + 1)), I (wr .i64 (Int.ofNat j + 1))], (mgK x (44 + q + 1) true).map some, [])) (44 + q + 1)) 6 := by kernel_rfl
theorem mgT (dead : Nat → Value) (x : Nat → Bool) (k : Nat) (hk : k < 50) (j : Nat) (hj : j < k + 1) : projS [0,6,7,8] (mgD (k + 1)) (exec Try.prog S58 Zl 400 (.code mgL) (Kst.st (mgS0 x (k + 1) true j) 26 dead [])) = some (Ex.normal, [P1v, SLU (3 * (k + 1) + 1) (k + 1), I (Int.ofNat (k + 1)), I (wr .i64 (Int.ofNat j + 1))], (mgK x (k + 1) true).map some, []) := by
  by_cases h0 : k < 20
  · obtain ⟨q, rfl⟩ : ∃ q, k = 0 + q := ⟨k - 0, by omega⟩
    exact tab_eq (tab_eq (mgT0 dead x) q (by omega)) j hj
  by_cases h1 : k < 30
  · obtain ⟨q, rfl⟩ : ∃ q, k = 20 + q := ⟨k - 20, by omega⟩
    exact tab_eq (tab_eq (mgT1 dead x) q (by omega)) j hj
  by_cases h2 : k < 37
  · obtain ⟨q, rfl⟩ : ∃ q, k = 30 + q := ⟨k - 30, by omega⟩
    exact tab_eq (tab_eq (mgT2 dead x) q (by omega)) j hj
  by_cases h3 : k < 44
  · obtain ⟨q, rfl⟩ : ∃ q, k = 37 + q := ⟨k - 37, by omega⟩
    exact tab_eq (tab_eq (mgT3 dead x) q (by omega)) j hj
  · obtain ⟨q, rfl⟩ : ∃ q, k = 44 + q := ⟨k - 44, by omega⟩
    exact tab_eq (tab_eq (mgT4 dead x) q (by omega)) j hj
end Go.Proofs.Ytnabopepomjncaa

/- fx.Merge: its rounds where the flag is false. -/
namespace Go.Proofs.Ytnabopepomjncaa
open Go.Lr Go.RowKit
set_option linter.unusedVariables false
set_option linter.unusedSimpArgs false

theorem mgF0 (dead : Nat → Value) (x : Nat → Bool) : tabA (fun q => tabA (fun j => projS [0,6,7,8] (mgD (0 + q + 1)) (exec Try.prog S58 Zl 400 (.code mgL) (Kst.st (mgS0 x (0 + q + 1) false j) 26 dead []))) (0 + q + 1)) 20 = tabB (fun q => tabB (fun j => some (Ex.normal, [P1v, SLU (3 * (0 + q + 1) + 1) (0 + q + 1), I (Int.ofNat (0 + q + 1)), I (wr .i64 (Int.ofNat j + 1))], (mgK x (0 + q + 1) (x j)).map some, [])) (0 + q + 1)) 20 := by kernel_rfl
theorem mgF1 (dead : Nat → Value) (x : Nat → Bool) : tabA (fun q => tabA (fun j => projS [0,6,7,8] (mgD (20 + q + 1)) (exec Try.prog S58 Zl 400 (.code mgL) (Kst.st (mgS0 x (20 + q + 1) false j) 26 dead []))) (20 + q + 1)) 10 = tabB (fun q => tabB (fun j => some (Ex.normal, [P1v, SLU (3 * (20 + q + 1) + 1) (20 + q + 1), I (Int.ofNat (20 + q + 1)), I (wr .i64 (Int.ofNat j + 1))], (mgK x (20 + q + 1) (x j)).map some, [])) (20 + q + 1)) 10 := by kernel_rfl
theorem mgF2 (dead : Nat → Value) (x : Nat → Bool) : tabA (fun q => tabA (fun j => projS [0,6,7,8] (mgD (30 + q + 1)) (exec Try.prog S58 Zl 400 (.code mgL) (Kst.st (mgS0 x (30 + q + 1) false j) 26 dead []))) (30 + q + 1)) 7 = tabB (fun q => tabB (fun j => some (Ex.normal, [P1v, SLU (3 * (30 + q + 1) + 1) (30 + q + 1), I (Int.ofNat (30 + q + 1)), I (wr .i64 (Int.ofNat j + 1))], (mgK x (30 + q + 1) (x j)).map some, [])) (30 + q + 1)) 7 := by kernel_rfl
theorem mgF3 (dead : Nat → Value) (x : Nat → Bool) : tabA (fun q => tabA (fun j => projS [0,6,7,8] (mgD (37 + q + 1)) (exec Try.prog S58 Zl 400 (.code mgL) (Kst.st (mgS0 x (37 + q + 1) false j) 26 dead []))) (37 + q + 1)) 7 = tabB (fun q => tabB (fun j => some (Ex.normal, [P1v, SLU (3 * (37 + q + 1) + 1) (37 + q + 1), I (Int.ofNat (37 + q + 1)), I (wr .i64 (Int.ofNat j + 1))], (mgK x (37 + q + 1) (x j)).map some, [])) (37 + q + 1)) 7 := by kernel_rfl
theorem mgF4 (dead : Nat → Value) (x : Nat → Bool) : tabA (fun q => tabA (fun j => projS [0,6,7,8] (mgD (44 + q + 1)) (exec Try.prog S58 Zl 400 (.code mgL) (Kst.st (mgS0 x (44 + q + 1) false j) 26 dead []))) (44 + q + 1)) 6 = tabB (fun q => tabB (fun j => some (Ex.normal, [P1v, SLU (3 * (44 + q + 1) + 1) (44 + q + 1), I (Int.ofNat (44 + q + 1)), I (wr .i64 (Int.ofNat j + 1))], (mgK x (44 + q + 1) (x j)).map some, [])) (44 + q + 1)) 6 := by kernel_rfl
theorem mgF (dead : Nat → Value) (x : Nat → Bool) (k : Nat) (hk : k < 50) (j : Nat) (hj : j < k + 1) : projS [0,6,7,8] (mgD (k + 1)) (exec Try.prog S58 Zl 400 (.code mgL) (Kst.st (mgS0 x (k + 1) false j) 26 dead [])) = some (Ex.normal, [P1v, SLU (3 * (k + 1) + 1) (k + 1), I (Int.ofNat (k + 1)), I (wr .i64 (Int.ofNat j + 1))], (mgK x (k + 1) (x j)).map some, []) := by
  by_cases h0 : k < 20
  · obtain ⟨q, rfl⟩ : ∃ q, k = 0 + q := ⟨k - 0, by omega⟩
    exact tab_eq (tab_eq (mgF0 dead x) q (by omega)) j hj
  by_cases h1 : k < 30
  · obtain ⟨q, rfl⟩ : ∃ q, k = 20 + q := ⟨k - 20, by omega⟩
    exact tab_eq (tab_eq (mgF1 dead x) q (by omega)) j hj
  by_cases h2 : k < 37
  · obtain ⟨q, rfl⟩ : ∃ q, k = 30 + q := ⟨k - 30, by omega⟩
    exact tab_eq (tab_eq (mgF2 dead x) q (by omega)) j hj
  by_cases h3 : k < 44
  · obtain ⟨q, rfl⟩ : ∃ q, k = 37 + q := ⟨k - 37, by omega⟩
    exact tab_eq (tab_eq (mgF3 dead x) q (by omega)) j hj
  · obtain ⟨q, rfl⟩ : ∃ q, k = 44 + q := ⟨k - 44, by omega⟩
    exact tab_eq (tab_eq (mgF4 dead x) q (by omega)) j hj
end Go.Proofs.Ytnabopepomjncaa

/- fx.Merge: its summary, for the flags that the law hands it. -/
namespace Go.Proofs.Ytnabopepomjncaa
open Go.Lr Go.RowKit
set_option linter.unusedVariables false
set_option linter.unusedSimpArgs false

theorem gen_lcl {P : Program} {f : FuncId} (ho : Own P f) {args : List LV} {seen : List Nat} {ks : List Blk} {m' : Mem} {wr : List (Nat × Option Blk)} {v : LV} {g : Nat → Option Blk} {nb : Nat} {E : Env} {w : World}
    (hl : liveAll g seen = some ks) (hrel : Rel E g w) (hv : v.ok noP = true) (hC : Calls P f (args.map (LV.den E)).toArray w fun e w' => e = .returned (v.den E0) ∧ Lcl E (zipM seen ks) m' w w')
    (hw : ∀ i b, wrG g wr i = some b → getM m' i = some b ∨ (i ∉ seen ∧ g i = some b)) (hw2 : ∀ i, (wrG g wr i).isSome → (g i).isSome) :
    CallOK P f (args.map (LV.den E)).toArray w fun u w' => ∃ E', u = v.den E' ∧ Post w E g nb ⟨v, wr, [], [], []⟩ E' w' := by
  obtain ⟨fn, h1, h2, h3⟩ := ho
  refine .inl ⟨fn, h1, h2, h3, hC.mono fun e w' he => ⟨_, he.1, E, (den_noP hv).symm, ?_⟩⟩
  have hL := he.2
  have key : ∀ j, (getM (zipM seen ks) j).isSome → j ∈ seen ∧ (g j).isSome := by
    intro j hj
    rw [getM_zipM hl] at hj
    by_cases q : j ∈ seen
    · rw [if_pos q] at hj; exact ⟨q, hj⟩
    · rw [if_neg q] at hj; cases hj
  refine ⟨fun _ _ => rfl, ⟨fun i b hib => ?_, fun i j hi hj he => hrel.inj i j (hw2 i hi) (hw2 j hj) he⟩, hL.os, hL.tape, hL.output, hL.size, fun b hb hne => hL.frame b hb fun i hi => hne i (key i hi).2, fun i h1 h2 => ?_⟩
  · rcases hw i b hib with h | ⟨hn, h⟩
    · exact hL.blk i b h
    · obtain ⟨r, g1, g2, g3⟩ := hrel.blk i b h
      refine ⟨r, ?_, g2, g3⟩
      rw [hL.frame (E i).1 (Array.getElem?_eq_some_iff.1 g1).1 fun j hj hej => ?_]
      · exact g1
      · obtain ⟨hs, hg⟩ := key j hj
        have := hrel.inj j i hg (by rw [h]; rfl) hej
        exact hn (this ▸ hs)
  · simp at h2; omega
theorem zipM_zip : ∀ (l : List Nat) (ks : List Blk), zipM l ks = l.zip ks
  | [], _ => by cases ‹List Blk› <;> rfl
  | _ :: _, [] => rfl
  | a :: l, k :: ks => by show (a, k) :: zipM l ks = (a, k) :: l.zip ks; rw [zipM_zip l ks]
def flB : Blk → Option Bool
  | ⟨t, (0, 0), 0, [.bool h]⟩ => match Nat.beq t 26 with
    | true => some h
    | false => none
  | _ => none
theorem flB_spec {k : Blk} {h : Bool} (e : flB k = some h) : k = FL h := by
  unfold flB at e
  split at e
  · split at e
    · rename_i q
      cases e
      rw [nbeq] at q
      have := of_decide_eq_true q
      rw [this]; rfl
    · cases e
  · cases e
def mgP : Nat → List Blk → Option (List Bool × List Blk)
  | 0, l => some ([], l)
  | n + 1, k :: l => match flB k, mgP n l with
    | some b, some (xs, r) => some (b :: xs, r)
    | _, _ => none
  | _ + 1, [] => none
theorem mgP_spec : ∀ {n : Nat} {l : List Blk} {xs : List Bool} {r : List Blk}, mgP n l = some (xs, r) → xs.length = n ∧ l = xs.map FL ++ r
  | 0, l, xs, r, h => by
    simp only [mgP, Option.some.injEq, Prod.mk.injEq] at h
    obtain ⟨rfl, rfl⟩ := h
    exact ⟨rfl, rfl⟩
  | n + 1, [], xs, r, h => by cases h
  | n + 1, k :: l, xs, r, h => by
    simp only [mgP] at h
    split at h
    · rename_i b ys r' e1 e2
      cases h
      obtain ⟨q1, q2⟩ := mgP_spec e2
      refine ⟨by rw [List.length_cons, q1], ?_⟩
      rw [flB_spec e1, q2]; rfl
    · cases h
def ptrOK : Nat → Nat → List At → Bool
  | _, 0, [] => true
  | j, n + 1, .ptr b 0 :: l => match Nat.beq b (3 * j + 2) with
    | true => ptrOK (j + 1) n l
    | false => false
  | _, _, _ => false
theorem ptrOK_spec : ∀ {n j : Nat} {l : List At}, ptrOK j n l = true → l = ptrU j n := by
  intro n
  induction n with
  | zero =>
    intro j l h
    unfold ptrOK at h
    split at h
    · rfl
    · rename_i e; cases e
    · cases h
  | succ n ih =>
    intro j l h
    unfold ptrOK at h
    split at h
    · rename_i e; cases e
    · rename_i e
      cases e
      split at h
      · rename_i q
        rw [nbeq] at q
        have := of_decide_eq_true q
        rw [this, ih h]; rfl
      · cases h
    · cases h
def lstOK (n : Nat) : Blk → Bool
  | ⟨t, (0, 0), 1, l⟩ => match Nat.beq t 24 with
    | true => ptrOK 0 n l
    | false => false
  | _ => false
theorem lstOK_spec {n : Nat} {k : Blk} (h : lstOK n k = true) : k = lstB n := by
  unfold lstOK at h
  split at h
  · split at h
    · rename_i q
      rw [nbeq] at q
      have := of_decide_eq_true q
      rw [this, ptrOK_spec h]; rfl
    · cases h
  · cases h
def natsB : List Nat → List Nat → Bool
  | [], [] => true
  | a :: l, b :: m => match Nat.beq a b with
    | true => natsB l m
    | false => false
  | _, _ => false
theorem natsB_spec : ∀ {l m : List Nat}, natsB l m = true → l = m
  | [], [], _ => rfl
  | [], _ :: _, h => by cases h
  | _ :: _, [], h => by cases h
  | a :: l, b :: m, h => by
    simp only [natsB] at h
    split at h
    · rename_i q
      rw [nbeq] at q
      rw [of_decide_eq_true q, natsB_spec h]
    · cases h
def orL : List Bool → Bool → Bool
  | [], h => h
  | a :: xs, h => orL xs h || a
def mgS : List LV → List Nat → List Blk → Nat → Option Dl
  | [.v (.one (.ptr 1 0)), .v (.one .nilsl)], [1], [k], _ => match flB k with
    | some h => some ⟨.tup [], [(1, some (FL h))], [], [1], []⟩
    | none => none
  | [.v (.one (.ptr 1 0)), .v (.one (.slu b n))], seen, ks, _ => match natsB seen (mgD n), Nat.beq b (3 * n + 1), Nat.ble 1 n, Nat.ble n 50 with
    | true, true, true, true => match mgP n ks with
      | some (xs, [L, K]) => match lstOK n L, flB K with
        | true, some h => some ⟨.tup [], [(1, some (FL (orL xs h)))], [], seen, []⟩
        | _, _ => none
      | _ => none
    | _, _, _, _ => none
  | _, _, _, _ => none
theorem acc_of : ∀ (xs : List Bool) (x : Nat → Bool) (h : Bool), (∀ j, j < xs.length → x j = xs.getD (xs.length - 1 - j) false) → accK x xs.length = xs.map FL ∧ orN x h xs.length = orL xs h
  | [], x, h, _ => ⟨rfl, rfl⟩
  | a :: xs, x, h, hx => by
    have h0 : x xs.length = a := by
      rw [hx xs.length (by simp)]
      simp
    obtain ⟨q1, q2⟩ := acc_of xs x h fun j hj => by
      rw [hx j (by simp; omega)]
      have : (a :: xs).length - 1 - j = (xs.length - 1 - j) + 1 := by simp; omega
      rw [this]; rfl
    refine ⟨?_, ?_⟩
    · show FL (x xs.length) :: accK x xs.length = _
      rw [h0, q1]; rfl
    · show (orN x h xs.length || x xs.length) = _
      rw [h0, q2]; rfl
theorem accD_len : ∀ n, (accD n).length = n
  | 0 => rfl
  | n + 1 => by show (accD n).length + 1 = n + 1; rw [accD_len n]
theorem accK_len (x : Nat → Bool) : ∀ n, (accK x n).length = n
  | 0 => rfl
  | n + 1 => by show (accK x n).length + 1 = n + 1; rw [accK_len x n]
theorem getM_last : ∀ (D : List Nat) (K : List Blk) (e : Nat) (L a : Blk), D.length = K.length → (∀ d ∈ D, d ≠ 1) → e ≠ 1 →
    getM ((D ++ [e, 1]).zip (K ++ [L, a])) 1 = some a ∧ ∀ (b : Blk) (i : Nat), i ≠ 1 → getM ((D ++ [e, 1]).zip (K ++ [L, a])) i = getM ((D ++ [e, 1]).zip (K ++ [L, b])) i
  | [], [], e, L, a, _, _, he => by
    refine ⟨?_, fun b i hi => ?_⟩
    · show getM [(e, L), (1, a)] 1 = some a
      rw [getM_cons, if_neg (fun q => he q.symm), getM_cons, if_pos rfl]
    · show getM [(e, L), (1, a)] i = getM [(e, L), (1, b)] i
      rw [getM_cons, getM_cons, getM_cons, getM_cons, if_neg hi, if_neg hi]
  | [], _ :: _, _, _, _, h, _, _ => by simp at h
  | _ :: _, [], _, _, _, h, _, _ => by simp at h
  | d :: D, k :: K, e, L, a, h, hd, he => by
    obtain ⟨q1, q2⟩ := getM_last D K e L a (by simpa using h) (fun x hx => hd x (List.mem_cons_of_mem _ hx)) he
    refine ⟨?_, fun b i hi => ?_⟩
    · show getM ((d, k) :: (D ++ [e, 1]).zip (K ++ [L, a])) 1 = some a
      rw [getM_cons, if_neg (fun q => hd d (List.mem_cons_self ..) q.symm), q1]
    · show getM ((d, k) :: (D ++ [e, 1]).zip (K ++ [L, a])) i = getM ((d, k) :: (D ++ [e, 1]).zip (K ++ [L, b])) i
      rw [getM_cons, getM_cons, q2 b i hi]
theorem accD_ne : ∀ n, ∀ d ∈ accD n, d ≠ 1
  | 0, d, h => by cases h
  | n + 1, d, h => by
    rcases List.mem_cons.1 h with rfl | h
    · omega
    · exact accD_ne n d h

def mgB (x : Nat → Bool) (n : Nat) (h : Bool) : Kst := ⟨[(0, P1v)], (mgD n).zip (mgK x n h), 3 * n + 2⟩
theorem mgS0_ok (x : Nat → Bool) (k : Nat) (hk : k < 50) (h : Bool) (j : Nat) : KstOK (mgS0 x (k + 1) h j) := kst_ok (tab_eq (mgV j) k hk) (tab_eq (mgM x h) k hk)
theorem mgB_ok (x : Nat → Bool) (k : Nat) (hk : k < 50) (h : Bool) : KstOK (mgB x (k + 1) h) := kst_ok (tab_eq mgW k hk) (tab_eq (mgM x h) k hk)
theorem mgStep (x : Nat → Bool) (k : Nat) (hk : k < 50) (h : Bool) (j : Nat) (hj : j < k + 1) : To Try.prog 26 mgL (mgS0 x (k + 1) (orN x h j) j) .normal (mgS0 x (k + 1) (orN x h (j + 1)) (j + 1)) := by
  have e4 : wr .i64 (Int.ofNat j + 1) = Int.ofNat (j + 1) := w64_in (by show -9223372036854775808 ≤ (j : Int) + 1; omega) (by show (j : Int) + 1 < 9223372036854775808; omega)
  have e5 : orN x h (j + 1) = (orN x h j || x j) := rfl
  rw [e5]
  cases hh : orN x h j
  · exact To.run (z := Zl) sound58 (slots := [0, 6, 7, 8]) (blks := mgD (k + 1)) (vs := [P1v, SLU (3 * (k + 1) + 1) (k + 1), I (Int.ofNat (k + 1)), I (Int.ofNat (j + 1))]) (bs := mgK x (k + 1) (x j)) (nbB := 3 * (k + 1) + 2)
      (fun dead => mgF dead x k hk j hj) rfl (by rw [e4]) rfl ae_nil (mgS0_ok x k hk (x j) (j + 1)) (Nat.le_refl _)
  · exact To.run (z := Zl) sound58 (slots := [0, 6, 7, 8]) (blks := mgD (k + 1)) (vs := [P1v, SLU (3 * (k + 1) + 1) (k + 1), I (Int.ofNat (k + 1)), I (Int.ofNat (j + 1))]) (bs := mgK x (k + 1) true) (nbB := 3 * (k + 1) + 2)
      (fun dead => mgT dead x k hk j hj) rfl (by rw [e4]) rfl ae_nil (mgS0_ok x k hk true (j + 1)) (Nat.le_refl _)
theorem mgRd (x : Nat → Bool) (k : Nat) (hk : k < 50) (h : Bool) : ∀ (m j : Nat), j + m = k + 1 → Rd Try.prog 26 mgL (m + 1) (mgS0 x (k + 1) (orN x h j) j) (.exit 0) (mgB x (k + 1) (orN x h (k + 1)))
  | 0, j, e => by
    have : j = k + 1 := by omega
    subst this
    exact Rd.last (by simp) (To.run (z := Zl) sound58 (slots := [0]) (blks := mgD (k + 1)) (vs := [P1v]) (bs := mgK x (k + 1) (orN x h (k + 1))) (nbB := 3 * (k + 1) + 2) (fun dead => tab_eq (mgX dead x (orN x h (k + 1))) k hk) rfl rfl rfl ae_nil (mgB_ok x k hk _) (Nat.le_refl _))
  | m + 1, j, e => Rd.next (mgStep x k hk h j (by omega)) (mgRd x k hk h m (j + 1) (by omega))
theorem mgTo (x : Nat → Bool) (k : Nat) (hk : k < 50) (h : Bool) : To Try.prog 26 (bodyF Try.prog 14) ⟨argsL 0 [P1v, SLU (3 * (k + 1) + 1) (k + 1)], (mgD (k + 1)).zip (mgK x (k + 1) h), 3 * (k + 1) + 2⟩ .normal (mgB x (k + 1) (orN x h (k + 1))) := by
  have p : To Try.prog 26 (c1 (bodyF Try.prog 14)) ⟨argsL 0 [P1v, SLU (3 * (k + 1) + 1) (k + 1)], (mgD (k + 1)).zip (mgK x (k + 1) h), 3 * (k + 1) + 2⟩ .normal (mgS0 x (k + 1) (orN x h 0) 0) :=
    To.run (z := Zl) sound58 (slots := [0, 6, 7, 8]) (blks := mgD (k + 1)) (vs := [P1v, SLU (3 * (k + 1) + 1) (k + 1), I (Int.ofNat (k + 1)), I (Int.ofNat 0)]) (bs := mgK x (k + 1) h) (nbB := 3 * (k + 1) + 2)
      (fun dead => tab_eq (mgA dead x h) k hk) rfl rfl rfl ae_nil (mgS0_ok x k hk h 0) (Nat.le_refl _)
  exact To.seq (by kernel_rfl) p (To.block (id := 0) (by kernel_rfl) (To.loop (m := k + 1 + 1) (by kernel_rfl) (mgRd x k hk h (k + 1) 0 (by omega))) (.inl rfl))
theorem mgnil (h : Bool) : (runF Try.prog S58 Zl 2000 14 [P1v, .v (.one .nilsl)] [(1, FL h)] 2 []).map (fun r => (r.1, getM r.2.1 1, r.2.2.2)) = some (.tup [], some (FL h), []) := by kernel_rfl
theorem wr1 {g : Nat → Option Blk} {b : Blk} (i : Nat) : wrG g [(1, some b)] i = if i = 1 then some b else g i := by
  simp only [wrG]
theorem sumMrg : GenOK Try.prog 14 mgS := by
  intro args seen ks g nb p d E w hl hd hnd hc hrel hg hargs hn
  have ho := own_of sound58 Try.func14 (by kernel_rfl)
  unfold mgS at hd
  split at hd
  · rename_i k _
    split at hd
    · rename_i h hk
      cases hd
      have hk' := flB_spec hk
      subst hk'
      have hsome : (g 1).isSome := by
        obtain ⟨-, h6⟩ := liveAll_get hl
        obtain ⟨b, -, hb⟩ := h6 0 1 rfl
        rw [hb]; rfl
      have hC : Calls Try.prog 14 ([P1v, .v (.one .nilsl)].map (LV.den E)).toArray w fun e w' => e = .returned ((LV.tup []).den E0) ∧ Lcl E (zipM [1] [FL h]) [(1, FL h)] w w' := by
        have hrun := mgnil h
        cases hq : runF Try.prog S58 Zl 2000 14 [P1v, .v (.one .nilsl)] [(1, FL h)] 2 [] with
        | none => rw [hq] at hrun; cases hrun
        | some q =>
          obtain ⟨v', m2, nb', cs'⟩ := q
          rw [hq] at hrun
          simp only [Option.map_some, Option.some.injEq, Prod.mk.injEq] at hrun
          obtain ⟨rfl, hm2, rfl⟩ := hrun
          exact lcl_of_run sound58 hq (m' := [(1, FL h)]) (fun i c hic => by
            rw [getM_cons] at hic
            by_cases q : i = 1
            · rw [if_pos q] at hic; cases hic; rw [q]; exact ⟨hm2, by omega, rfl⟩
            · rw [if_neg q] at hic; simp [getM] at hic) ae_nil rfl (fun a ha => by
            simp only [List.mem_cons, List.not_mem_nil, or_false] at ha
            rcases ha with rfl | rfl <;> rfl) rfl E w (hrel.sub fun i b hb => by
              have := getM_zipM hl i
              have hb' : getM (zipM [1] [FL h]) i = some b := hb
              rw [this] at hb'
              split at hb'
              · exact hb'
              · cases hb')
      refine gen_lcl ho hl hrel rfl hC (fun i b hib => ?_) (fun i hi => ?_)
      · rw [wr1] at hib
        by_cases q : i = 1
        · rw [if_pos q] at hib; cases hib; left; rw [q]; rfl
        · rw [if_neg q] at hib; exact .inr ⟨by simpa using q, hib⟩
      · rw [wr1] at hi
        by_cases q : i = 1
        · rw [q]; exact hsome
        · rw [if_neg q] at hi; exact hi
    · cases hd
  · rename_i b n
    split at hd
    · rename_i q1 q2 q3 q4
      split at hd
      · rename_i xs L K hp
        split at hd
        · rename_i h hL hK
          cases hd
          have e1 := natsB_spec q1
          rw [nbeq] at q2
          have e2 := of_decide_eq_true q2
          rw [Nat.ble_eq] at q3 q4
          obtain ⟨e3, e4⟩ := mgP_spec hp
          obtain ⟨k, rfl⟩ : ∃ k, n = k + 1 := ⟨n - 1, by omega⟩
          have hk : k < 50 := by omega
          obtain ⟨a1, a2⟩ := acc_of xs (fun j => xs.getD (xs.length - 1 - j) false) h (fun j _ => rfl)
          rw [e3] at a1 a2
          generalize (fun j => xs.getD (k + 1 - 1 - j) false) = x at a1 a2
          have eks : ks = mgK x (k + 1) h := by rw [e4, ← a1, lstOK_spec hL, flB_spec hK]; rfl
          subst e1
          subst e2
          rw [eks] at hl
          rw [← a2]
          have hm := tab_eq (mgM x h) k hk
          have hm' := tab_eq (mgM x (orN x h (k + 1))) k hk
          obtain ⟨z1, z2⟩ := getM_last (accD (k + 1)) (accK x (k + 1)) (3 * (k + 1) + 1) (lstB (k + 1)) (FL (orN x h (k + 1))) (by rw [accD_len, accK_len]) (accD_ne _) (by omega)
          have hC : Calls Try.prog 14 ([P1v, SLU (3 * (k + 1) + 1) (k + 1)].map (LV.den E)).toArray w fun e w' => e = .returned ((LV.tup []).den E0) ∧ Lcl E ((mgD (k + 1)).zip (mgK x (k + 1) h)) ((mgD (k + 1)).zip (mgK x (k + 1) (orN x h (k + 1)))) w w' := by
            refine lcl_of_To (m' := (mgD (k + 1)).zip (mgK x (k + 1) (orN x h (k + 1)))) Try.func14 (by kernel_rfl) (Nat.le_of_ble_eq_true (by kernel_rfl)) (Nat.le_of_ble_eq_true (by kernel_rfl)) (okArgs_iff (tab_eq mgAr k hk)) hm (mgTo x k hk h) (.inl rfl) (fun dead => rfl) rfl (fun i b hib => ⟨hib, (memOKb_ok hm').1 i b hib⟩) E w (hrel.sub fun i b hb => ?_)
            rw [← zipM_zip, getM_zipM hl] at hb
            split at hb
            · exact hb
            · cases hb
          rw [← zipM_zip (mgD (k + 1)) (mgK x (k + 1) h)] at hC
          refine gen_lcl ho hl hrel rfl hC (fun i b hib => ?_) (fun i hi => ?_)
          · rw [wr1] at hib
            by_cases q : i = 1
            · rw [if_pos q] at hib; cases hib; left; rw [q]; exact z1
            · rw [if_neg q] at hib
              by_cases hs : i ∈ mgD (k + 1)
              · left
                have h1 := getM_zipM hl i
                rw [if_pos hs, hib, zipM_zip] at h1
                exact (z2 (FL h) i q).trans h1
              · exact .inr ⟨hs, hib⟩
          · rw [wr1] at hi
            by_cases q : i = 1
            · rw [q]
              have h1 := getM_zipM hl 1
              obtain ⟨y1, -⟩ := getM_last (accD (k + 1)) (accK x (k + 1)) (3 * (k + 1) + 1) (lstB (k + 1)) (FL h) (by rw [accD_len, accK_len]) (accD_ne _) (by omega)
              rw [zipM_zip] at h1
              have h2 : some (FL h) = if 1 ∈ mgD (k + 1) then g 1 else none := y1.symm.trans h1
              split at h2
              · rw [← h2]; rfl
              · cases h2
            · rw [if_neg q] at hi; exact hi
        · cases hd
      · cases hd
    · cases hd
  · cases hd
noncomputable def S75 : FuncId → Option SumK := moreG S58 14 mgS
theorem sound75 : Sound Try.prog S75 := sound58.moreG sumMrg
end Go.Proofs.Ytnabopepomjncaa

/- Laws that are handed slices of truth values. -/
namespace Go.Lr
set_option linter.unusedVariables false
open Go.ChangeShapes Go.WideShapes Go.ChangeAt Go.RowKit

section
variable {H : Type} {enc : TypeId × Value → H} {P : Program} {held : Bool}
theorem open_bools {w : World} {base : Nat} {t e : TypeId} {fuel : Nat} {cs : List Value} {x : DataW H × List MemPlace} (ht : P.underlying t = some (.slice e)) (he : P.underlying e = some .bool) (hc : P.cellsOf e = 1)
    (h : DataW.trod enc P w base (fun _ => true) held fuel t cs = some x) :
    cs = [.slice none 0 0] ∨ ∃ (a : Addr) (len cap : Nat), cs = [.slice (some a) len cap] ∧ len ≤ cap ∧ cap ≤ maxLen ∧ ∀ j, j < cap → ∃ b : Bool, w.cell? (a.add j) = some (.bool b) := by
  rcases DataW.trod_slice ht h with h0 | ⟨a, len, cap, elems, rest, n, _, rfl, rfl, hb, hl, hm, hlen, hel, hsp, hns⟩
  · exact Or.inl h0.1
  right
  refine ⟨a, len, cap, rfl, hl, hm, fun j hj => ?_⟩
  obtain ⟨hrl, hr⟩ := hsp rfl
  have hy : ∃ y, (w.cells? base (a.add (j * P.cellsOf e)) (P.cellsOf e)).bind (DataW.trod enc P w base (fun _ => true) held n e) = some y := by
    by_cases hi : j < len
    · rw [hel j hi]; exact ⟨elems[j], List.getElem?_eq_getElem (by omega)⟩
    · have := hr (j - len) (by omega)
      rw [show len + (j - len) = j by omega] at this
      rw [this]; exact ⟨rest[j - len], List.getElem?_eq_getElem (by omega)⟩
  obtain ⟨y, hy⟩ := hy
  rw [hc, Nat.mul_one, Option.bind_eq_some_iff] at hy
  obtain ⟨cs', hcs, hy'⟩ := hy
  obtain ⟨b, rfl, -⟩ := DataW.trod_bool he hy'
  exact ⟨b, cell_of_cells?_one hcs⟩
end
/-- What is told of a slice of truth values that came in. -/
def IsRowB (w : World) (a : Option Addr) (len cap : Nat) : Prop :=
  (a = none ∧ len = 0 ∧ cap = 0) ∨ ∃ x, a = some x ∧ len ≤ cap ∧ cap ≤ maxLen ∧ ∀ j, j < cap → ∃ b : Bool, w.cell? (x.add j) = some (.bool b)
theorem isBoolAt_of {l : List At} {o : Nat} {b : Bool} (h : atL l o = some (.bool b)) : isBoolAt l o = true := by
  unfold isBoolAt; rw [h]
theorem row_inB {w : World} {a : Option Addr} {len cap : Nat} (hb : IsBlk w a) (h : IsRowB w a len cap) :
    (a = none ∧ len = 0 ∧ cap = 0) ∨ ∃ b o arr ty fr, a = some ⟨b, o, none⟩ ∧ w.heap[b]? = some (.cells arr ty fr) ∧ len ≤ cap ∧ cap ≤ maxLen ∧ o ≤ arr.size ∧ ∀ j, j < cap → isBoolAt (convL arr) (o + j) = true := by
  rcases h with h | ⟨x, rfl, hl, hm, hc⟩
  · exact .inl h
  · right
    obtain ⟨hs, arr, ty, fr, hh, ho⟩ := hb x rfl
    obtain ⟨b, o, sp⟩ := x
    cases hs
    refine ⟨b, o, arr, ty, fr, rfl, hh, hl, hm, ho, fun j hj => ?_⟩
    obtain ⟨v, hv⟩ := hc j hj
    rw [add_cell hh] at hv
    refine isBoolAt_of (b := v) ?_
    rw [atL_eq]
    unfold convL
    rw [List.getElem?_map, Array.getElem?_toList, hv]
    rfl
end Go.Lr

/- The law FxFlags: what its first loop starts from and comes to. -/
namespace Go.Proofs.Ytnabopepomjncaa
open Go.Lr Go.RowKit
set_option linter.unusedVariables false
set_option linter.unusedSimpArgs false

def bL (b : Bool) : LV := .v (.one (.bool b))
abbrev NILs : LV := .v (.one .nilsl)
def xB (l : List At) (o : Nat) (j : Nat) : Bool := boolAt l (o + (Int.ofNat j).toNat * 1)
def lwB (k : Nat) : List Nat := 1 :: (accD k ++ [3 * k + 1])
def lwK (x : Nat → Bool) (k : Nat) (h : Bool) : List Blk := FL h :: (accK x k ++ [lstB k])
noncomputable def flR : Code := dropC 11 (bodyF Try.prog 3)
noncomputable def flL : Code := c1 (c1 (c2 (c1 flR)))
theorem fli (dead : Nat → Value) (h : Bool) (o n c : Nat) (ty : TypeId) (fr : Nat × Nat) (l : List At) (s : Bool) : projS [2,7,9,10,11] [0,1] (exec Try.prog S75 Zl 400 (.code (c1 (c1 flR))) (Kst.st ⟨[(2, SLX 0 o n c), (7, P1v), (9, NILs), (10, bL s)], [(0, ⟨ty, fr, 0, l⟩), (1, FL h)], 2⟩ 114 dead [])) = some (Ex.normal, [SLX 0 o n c, P1v, NILs, bL s, I (Int.ofNat 0)], [some ⟨ty, fr, 0, l⟩, some (FL h)], []) := by kernel_rfl
theorem flx0 (dead : Nat → Value) (h : Bool) (o n c : Nat) (ty : TypeId) (fr : Nat × Nat) (l : List At) (s : Bool) : projS [2,7,9,10] [0,1] (exec Try.prog S75 Zl 400 (.code flL) (Kst.st ⟨[(2, SLX 0 o n c), (7, P1v), (9, NILs), (10, bL s), (11, I (Int.ofNat 0))], [(0, ⟨ty, fr, 0, l⟩), (1, FL h)], 2⟩ 114 dead [some false])) = some (Ex.exit 0, [SLX 0 o n c, P1v, NILs, bL s], [some ⟨ty, fr, 0, l⟩, some (FL h)], [(decide (Int.ofNat 0 < (n : Int)), false)]) := by kernel_rfl
theorem flx (dead : Nat → Value) (h : Bool) (o n c : Nat) (ty : TypeId) (fr : Nat × Nat) (l : List At) (s : Bool) : tabA (fun k => projS [2,7,9,10] (0 :: lwB (k + 1)) (exec Try.prog S75 Zl 400 (.code flL) (Kst.st ⟨[(2, SLX 0 o n c), (7, P1v), (9, SLU (3 * (k + 1) + 1) (k + 1)), (10, bL s), (11, I (Int.ofNat (k + 1)))], (0, ⟨ty, fr, 0, l⟩) :: (lwB (k + 1)).zip (lwK (xB l o) (k + 1) h), 3 * (k + 1) + 2⟩ 114 dead [some false]))) 50 = tabB (fun k => some (Ex.exit 0, [SLX 0 o n c, P1v, SLU (3 * (k + 1) + 1) (k + 1), bL s], some ⟨ty, fr, 0, l⟩ :: (lwK (xB l o) (k + 1) h).map some, [(decide (Int.ofNat (k + 1) < (n : Int)), false)])) 50 := by kernel_rfl
theorem fl0T (dead : Nat → Value) (h : Bool) (o n c : Nat) (ty : TypeId) (fr : Nat × Nat) (l : List At) : projS [2,7,9,10,11] (0 :: lwB 1) (exec Try.prog S75 Zl 400 (.code flL) (Kst.st ⟨[(2, SLX 0 o n c), (7, P1v), (9, NILs), (10, bL true), (11, I (Int.ofNat 0))], [(0, ⟨ty, fr, 0, l⟩), (1, FL h)], 2⟩ 114 dead [some true])) = some (Ex.normal, [SLX 0 o n c, P1v, SLU 4 1, bL true, I (wr .i64 (Int.ofNat 0 + 1))], some ⟨ty, fr, 0, l⟩ :: (lwK (xB l o) 1 h).map some, [(true, true), (isBoolAt l (o + (Int.ofNat 0).toNat * 1), true), (decide (0 ≤ Int.ofNat 0) && decide (Int.ofNat 0 < (n : Int)), true), (decide (Int.ofNat 0 < (n : Int)), true)]) := by kernel_rfl
theorem flrT (dead : Nat → Value) (h : Bool) (o n c : Nat) (ty : TypeId) (fr : Nat × Nat) (l : List At) : tabA (fun k => projS [2,7,9,10,11] (0 :: lwB (k + 2)) (exec Try.prog S75 Zl 400 (.code flL) (Kst.st ⟨[(2, SLX 0 o n c), (7, P1v), (9, SLU (3 * (k + 1) + 1) (k + 1)), (10, bL true), (11, I (Int.ofNat (k + 1)))], (0, ⟨ty, fr, 0, l⟩) :: (lwB (k + 1)).zip (lwK (xB l o) (k + 1) h), 3 * (k + 1) + 2⟩ 114 dead [some true]))) 49 = tabB (fun k => some (Ex.normal, [SLX 0 o n c, P1v, SLU (3 * (k + 2) + 1) (k + 2), bL true, I (wr .i64 (Int.ofNat (k + 1) + 1))], some ⟨ty, fr, 0, l⟩ :: (lwK (xB l o) (k + 2) h).map some, [(true, true), (isBoolAt l (o + (Int.ofNat (k + 1)).toNat * 1), true), (decide (0 ≤ Int.ofNat (k + 1)) && decide (Int.ofNat (k + 1) < (n : Int)), true), (decide (Int.ofNat (k + 1) < (n : Int)), true)])) 49 := by kernel_rfl
theorem fl0F (dead : Nat → Value) (h : Bool) (o n c : Nat) (ty : TypeId) (fr : Nat × Nat) (l : List At) : projS [2,7,9,10,11] (0 :: lwB 1) (exec Try.prog S75 Zl 400 (.code flL) (Kst.st ⟨[(2, SLX 0 o n c), (7, P1v), (9, NILs), (10, bL false), (11, I (Int.ofNat 0))], [(0, ⟨ty, fr, 0, l⟩), (1, FL h)], 2⟩ 114 dead [some true])) = some (Ex.normal, [SLX 0 o n c, P1v, SLU 4 1, bL (xB l o 0), I (wr .i64 (Int.ofNat 0 + 1))], some ⟨ty, fr, 0, l⟩ :: (lwK (xB l o) 1 h).map some, [(isBoolAt l (o + (Int.ofNat 0).toNat * 1), true), (decide (0 ≤ Int.ofNat 0) && decide (Int.ofNat 0 < (n : Int)), true), (true, true), (isBoolAt l (o + (Int.ofNat 0).toNat * 1), true), (decide (0 ≤ Int.ofNat 0) && decide (Int.ofNat 0 < (n : Int)), true), (decide (Int.ofNat 0 < (n : Int)), true)]) := by kernel_rfl
theorem flrF (dead : Nat → Value) (h : Bool) (o n c : Nat) (ty : TypeId) (fr : Nat × Nat) (l : List At) : tabA (fun k => projS [2,7,9,10,11] (0 :: lwB (k + 2)) (exec Try.prog S75 Zl 400 (.code flL) (Kst.st ⟨[(2, SLX 0 o n c), (7, P1v), (9, SLU (3 * (k + 1) + 1) (k + 1)), (10, bL false), (11, I (Int.ofNat (k + 1)))], (0, ⟨ty, fr, 0, l⟩) :: (lwB (k + 1)).zip (lwK (xB l o) (k + 1) h), 3 * (k + 1) + 2⟩ 114 dead [some true]))) 49 = tabB (fun k => some (Ex.normal, [SLX 0 o n c, P1v, SLU (3 * (k + 2) + 1) (k + 2), bL (xB l o (k + 1)), I (wr .i64 (Int.ofNat (k + 1) + 1))], some ⟨ty, fr, 0, l⟩ :: (lwK (xB l o) (k + 2) h).map some, [(isBoolAt l (o + (Int.ofNat (k + 1)).toNat * 1), true), (decide (0 ≤ Int.ofNat (k + 1)) && decide (Int.ofNat (k + 1) < (n : Int)), true), (true, true), (isBoolAt l (o + (Int.ofNat (k + 1)).toNat * 1), true), (decide (0 ≤ Int.ofNat (k + 1)) && decide (Int.ofNat (k + 1) < (n : Int)), true), (decide (Int.ofNat (k + 1) < (n : Int)), true)])) 49 := by kernel_rfl
theorem flM (x : Nat → Bool) (h : Bool) : tabA (fun k => (memOKb (3 * (k + 1) + 2) ((lwB (k + 1)).zip (lwK x (k + 1) h)), getM ((lwB (k + 1)).zip (lwK x (k + 1) h)) 0)) 50 = tabB (fun _ => (true, none)) 50 := by kernel_rfl
theorem flV (o n c : Nat) (s : Bool) (i : Int) : tabA (fun k => (liveOKb (3 * (k + 1) + 2) [(2, SLX 0 o n c), (7, P1v), (9, SLU (3 * (k + 1) + 1) (k + 1)), (10, bL s), (11, I i)], liveOKb (3 * (k + 1) + 2) [(2, SLX 0 o n c), (7, P1v), (9, SLU (3 * (k + 1) + 1) (k + 1)), (10, bL s)])) 50 = tabB (fun _ => (true, true)) 50 := by kernel_rfl
end Go.Proofs.Ytnabopepomjncaa

/- The law FxFlags: behind its first loop. -/
namespace Go.Proofs.Ytnabopepomjncaa
open Go.Lr Go.RowKit
set_option linter.unusedVariables false
set_option linter.unusedSimpArgs false

def dcN : Nat → List (Option Bool)
  | 0 => []
  | n + 1 => nn 1 (ff 1 (dcN n))
def askZ (l : List At) (o : Nat) : Nat → List (Bool × Bool)
  | 0 => []
  | n + 1 => (!(xB l o n == xB l o n), false) :: (isBoolAt l (o + (Int.ofNat n).toNat * 1), true) :: (true, true) :: askZ l o n
theorem flz0 (dead : Nat → Value) (h s : Bool) (o c : Nat) (ty : TypeId) (fr : Nat × Nat) (l : List At) : projS [6] [0] (exec Try.prog S75 Zl 4000 (.code (c2 flR)) (Kst.st ⟨[(2, SLX 0 o 0 c), (7, P1v), (9, NILs), (10, bL s)], [(0, ⟨ty, fr, 0, l⟩), (1, FL h)], 2⟩ 114 dead [])) = some (Ex.ret, [bL (h == s)], [some ⟨ty, fr, 0, l⟩], []) := by kernel_rfl
theorem flz_0 (dead : Nat → Value) (h s : Bool) (o c : Nat) (ty : TypeId) (fr : Nat × Nat) (l : List At) : tabA (fun q => projS [6] [0] (exec Try.prog S75 Zl 4000 (.code (c2 flR)) (Kst.st ⟨[(2, SLX 0 o (0 + q + 1) c), (7, P1v), (9, SLU (3 * (0 + q + 1) + 1) (0 + q + 1)), (10, bL s)], (0, ⟨ty, fr, 0, l⟩) :: (lwB (0 + q + 1)).zip (lwK (xB l o) (0 + q + 1) h), 3 * (0 + q + 1) + 2⟩ 114 dead (dcN (0 + q + 1))))) 20 = tabB (fun q => some (Ex.ret, [bL (orN (xB l o) h (0 + q + 1) == s)], [some ⟨ty, fr, 0, l⟩], askZ l o (0 + q + 1))) 20 := by kernel_rfl
theorem flz_1 (dead : Nat → Value) (h s : Bool) (o c : Nat) (ty : TypeId) (fr : Nat × Nat) (l : List At) : tabA (fun q => projS [6] [0] (exec Try.prog S75 Zl 4000 (.code (c2 flR)) (Kst.st ⟨[(2, SLX 0 o (20 + q + 1) c), (7, P1v), (9, SLU (3 * (20 + q + 1) + 1) (20 + q + 1)), (10, bL s)], (0, ⟨ty, fr, 0, l⟩) :: (lwB (20 + q + 1)).zip (lwK (xB l o) (20 + q + 1) h), 3 * (20 + q + 1) + 2⟩ 114 dead (dcN (20 + q + 1))))) 10 = tabB (fun q => some (Ex.ret, [bL (orN (xB l o) h (20 + q + 1) == s)], [some ⟨ty, fr, 0, l⟩], askZ l o (20 + q + 1))) 10 := by kernel_rfl
theorem flz_2 (dead : Nat → Value) (h s : Bool) (o c : Nat) (ty : TypeId) (fr : Nat × Nat) (l : List At) : tabA (fun q => projS [6] [0] (exec Try.prog S75 Zl 4000 (.code (c2 flR)) (Kst.st ⟨[(2, SLX 0 o (30 + q + 1) c), (7, P1v), (9, SLU (3 * (30 + q + 1) + 1) (30 + q + 1)), (10, bL s)], (0, ⟨ty, fr, 0, l⟩) :: (lwB (30 + q + 1)).zip (lwK (xB l o) (30 + q + 1) h), 3 * (30 + q + 1) + 2⟩ 114 dead (dcN (30 + q + 1))))) 7 = tabB (fun q => some (Ex.ret, [bL (orN (xB l o) h (30 + q + 1) == s)], [some ⟨ty, fr, 0, l⟩], askZ l o (30 + q + 1))) 7 := by kernel_rfl
theorem flz_3 (dead : Nat → Value) (h s : Bool) (o c : Nat) (ty : TypeId) (fr : Nat × Nat) (l : List At) : tabA (fun q => projS [6] [0] (exec Try.prog S75 Zl 4000 (.code (c2 flR)) (Kst.st ⟨[(2, SLX 0 o (37 + q + 1) c), (7, P1v), (9, SLU (3 * (37 + q + 1) + 1) (37 + q + 1)), (10, bL s)], (0, ⟨ty, fr, 0, l⟩) :: (lwB (37 + q + 1)).zip (lwK (xB l o) (37 + q + 1) h), 3 * (37 + q + 1) + 2⟩ 114 dead (dcN (37 + q + 1))))) 7 = tabB (fun q => some (Ex.ret, [bL (orN (xB l o) h (37 + q + 1) == s)], [some ⟨ty, fr, 0, l⟩], askZ l o (37 + q + 1))) 7 := by kernel_rfl
theorem flz_4 (dead : Nat → Value) (h s : Bool) (o c : Nat) (ty : TypeId) (fr : Nat × Nat) (l : List At) : tabA (fun q => projS [6] [0] (exec Try.prog S75 Zl 4000 (.code (c2 flR)) (Kst.st ⟨[(2, SLX 0 o (44 + q + 1) c), (7, P1v), (9, SLU (3 * (44 + q + 1) + 1) (44 + q + 1)), (10, bL s)], (0, ⟨ty, fr, 0, l⟩) :: (lwB (44 + q + 1)).zip (lwK (xB l o) (44 + q + 1) h), 3 * (44 + q + 1) + 2⟩ 114 dead (dcN (44 + q + 1))))) 6 = tabB (fun q => some (Ex.ret, [bL (orN (xB l o) h (44 + q + 1) == s)], [some ⟨ty, fr, 0, l⟩], askZ l o (44 + q + 1))) 6 := by kernel_rfl
theorem flz (dead : Nat → Value) (h s : Bool) (o c : Nat) (ty : TypeId) (fr : Nat × Nat) (l : List At) (k : Nat) (hk : k < 50) : projS [6] [0] (exec Try.prog S75 Zl 4000 (.code (c2 flR)) (Kst.st ⟨[(2, SLX 0 o (k + 1) c), (7, P1v), (9, SLU (3 * (k + 1) + 1) (k + 1)), (10, bL s)], (0, ⟨ty, fr, 0, l⟩) :: (lwB (k + 1)).zip (lwK (xB l o) (k + 1) h), 3 * (k + 1) + 2⟩ 114 dead (dcN (k + 1)))) = some (Ex.ret, [bL (orN (xB l o) h (k + 1) == s)], [some ⟨ty, fr, 0, l⟩], askZ l o (k + 1)) := by
  by_cases h0 : k < 20
  · obtain ⟨q, rfl⟩ : ∃ q, k = 0 + q := ⟨k - 0, by omega⟩
    exact tab_eq (flz_0 dead h s o c ty fr l) q (by omega)
  by_cases h1 : k < 30
  · obtain ⟨q, rfl⟩ : ∃ q, k = 20 + q := ⟨k - 20, by omega⟩
    exact tab_eq (flz_1 dead h s o c ty fr l) q (by omega)
  by_cases h2 : k < 37
  · obtain ⟨q, rfl⟩ : ∃ q, k = 30 + q := ⟨k - 30, by omega⟩
    exact tab_eq (flz_2 dead h s o c ty fr l) q (by omega)
  by_cases h3 : k < 44
  · obtain ⟨q, rfl⟩ : ∃ q, k = 37 + q := ⟨k - 37, by omega⟩
    exact tab_eq (flz_3 dead h s o c ty fr l) q (by omega)
  · obtain ⟨q, rfl⟩ : ∃ q, k = 44 + q := ⟨k - 44, by omega⟩
    exact tab_eq (flz_4 dead h s o c ty fr l) q (by omega)
end Go.Proofs.Ytnabopepomjncaa
