/- Joined texts. What each part proves stands ahead of it; no condition. -/
import Derived.Test.YtdkmiliehlhmbaaLrM3
import Derived.Test.YtdkmiliehlhmbaaLrM2

/- fx.Add: its walk, round by round. -/
namespace Go.Proofs.Ytdkmiliehlhmbaa
open Go.Lr
set_option linter.unusedVariables false
set_option linter.unusedSimpArgs false

theorem fa (dead : Nat → Value) (hb : Bool) (o n c : Nat) (ty : TypeId) (fr : Nat × Nat) (es : Nat) (l : List At) : projS [0,1,4,5] [0,1,2] (execL Try.prog S15 Zl 400 (spineL 2 (bodyF Try.prog 96)) (Kst.st ⟨argsL 0 [A0, .v (.one (.slx 1 o n c))], [(0, flag 41 hb), (1, ⟨ty, fr, es, l⟩)], 2⟩ 39 dead [])) = some (Ex.normal, [LV.v (V1.one (At.ptr 0 0)), LV.v (V1.one (At.slx 1 o n c)), LV.v (V1.one (At.int IntKind.i64 0)), LV.v (V1.one (At.ptr 2 0))], [some { ty := 41, fr := (0, 0), es := 0, cells := [At.bool hb] }, some { ty := ty, fr := fr, es := es, cells := l }, some { ty := 106, fr := (0, 0), es := 0, cells := [At.int IntKind.i64 0, At.int IntKind.u64 0] }], []) := by kernel_rfl
theorem fb (dead : Nat → Value) (hb : Bool) (o n c : Nat) (ty : TypeId) (fr : Nat × Nat) (es : Nat) (l : List At) (x y : Int) : projS [0,5,10,11,12] [0,1,2] (exec Try.prog S15 Zl 400 (.code (c1 (c1 (c2 (c2 (bodyF Try.prog 96)))))) (Kst.st ⟨[(0, A0), (1, .v (.one (.slx 1 o n c))), (4, .v (.one (.int .i64 0))), (5, .v (.one (.ptr 2 0)))], [(0, flag 41 hb), (1, ⟨ty, fr, es, l⟩), (2, ⟨106, (0,0), 0, [.int .i64 x, .int .u64 y]⟩)], 3⟩ 39 dead [])) = some (Ex.normal, [LV.v (V1.one (At.ptr 0 0)), LV.v (V1.one (At.ptr 2 0)), LV.v (V1.one (At.slx 1 o n c)), LV.v (V1.one (At.int IntKind.i64 ↑n)), LV.v (V1.one (At.int IntKind.i64 0))], [some { ty := 41, fr := (0, 0), es := 0, cells := [At.bool hb] }, some { ty := ty, fr := fr, es := es, cells := l }, some { ty := 106, fr := (0, 0), es := 0, cells := [At.int IntKind.i64 x, At.int IntKind.u64 y] }], []) := by kernel_rfl
theorem fc (dead : Nat → Value) (hb : Bool) (o n c : Nat) (ty : TypeId) (fr : Nat × Nat) (es : Nat) (l : List At) (x y i : Int) : projS [0,5,10,11,12] [0,1,2] (exec Try.prog S15 Zl 400 (.code (c1 (c1 (c2 (c1 (c2 (c2 (bodyF Try.prog 96)))))))) (Kst.st ⟨[(0, A0), (5, .v (.one (.ptr 2 0))), (10, .v (.one (.slx 1 o n c))), (11, .v (.one (.int .i64 n))), (12, .v (.one (.int .i64 i)))], [(0, flag 41 hb), (1, ⟨ty, fr, es, l⟩), (2, ⟨106, (0,0), 0, [.int .i64 x, .int .u64 y]⟩)], 3⟩ 39 dead [some true])) = some (Ex.normal, [LV.v (V1.one (At.ptr 0 0)), LV.v (V1.one (At.ptr 2 0)), LV.v (V1.one (At.slx 1 o n c)), LV.v (V1.one (At.int IntKind.i64 ↑n)), LV.v (V1.one (At.int IntKind.i64 (wr IntKind.i64 (i + 1))))], [some { ty := 41, fr := (0, 0), es := 0, cells := [At.bool (hb || satH (intAt l (o + i.toNat * 1)))] }, some { ty := ty, fr := fr, es := es, cells := l }, some { ty := 106, fr := (0, 0), es := 0, cells := [At.int IntKind.i64 (wHi (wVal x y + wVal (wHi (satV (intAt l (o + i.toNat * 1)))) (wLo (satV (intAt l (o + i.toNat * 1)))))), At.int IntKind.u64 (wLo (wVal x y + wVal (wHi (satV (intAt l (o + i.toNat * 1)))) (wLo (satV (intAt l (o + i.toNat * 1))))))] }], [(isI x, true), (isU y, true), (isI (wHi (satV (intAt l (o + i.toNat * 1)))), true), (isU (wLo (satV (intAt l (o + i.toNat * 1)))), true), (isW (wVal x y + wVal (wHi (satV (intAt l (o + i.toNat * 1)))) (wLo (satV (intAt l (o + i.toNat * 1))))), true), (isI (satV (intAt l (o + i.toNat * 1))), true), (isIntAt IntKind.i64 l (o + i.toNat * 1), true), (decide (0 ≤ i) && decide (i < ↑n), true), (decide (i < ↑n), true)]) := by kernel_rfl
theorem fd (dead : Nat → Value) (hb : Bool) (o n c : Nat) (ty : TypeId) (fr : Nat × Nat) (es : Nat) (l : List At) (x y i : Int) : projS [0,5] [0,1,2] (exec Try.prog S15 Zl 400 (.code (c1 (c1 (c2 (c1 (c2 (c2 (bodyF Try.prog 96)))))))) (Kst.st ⟨[(0, A0), (5, .v (.one (.ptr 2 0))), (10, .v (.one (.slx 1 o n c))), (11, .v (.one (.int .i64 n))), (12, .v (.one (.int .i64 i)))], [(0, flag 41 hb), (1, ⟨ty, fr, es, l⟩), (2, ⟨106, (0,0), 0, [.int .i64 x, .int .u64 y]⟩)], 3⟩ 39 dead [some false])) = some (Ex.exit 0, [LV.v (V1.one (At.ptr 0 0)), LV.v (V1.one (At.ptr 2 0))], [some { ty := 41, fr := (0, 0), es := 0, cells := [At.bool hb] }, some { ty := ty, fr := fr, es := es, cells := l }, some { ty := 106, fr := (0, 0), es := 0, cells := [At.int IntKind.i64 x, At.int IntKind.u64 y] }], [(decide (i < ↑n), false)]) := by kernel_rfl
theorem fe (dead : Nat → Value) (hb : Bool) (ty : TypeId) (fr : Nat × Nat) (es : Nat) (l : List At) (x y : Int) : projS [4] [0,1] (exec Try.prog S15 Zl 400 (.code (c2 (c2 (c2 (bodyF Try.prog 96))))) (Kst.st ⟨[(0, A0), (5, .v (.one (.ptr 2 0)))], [(0, flag 41 hb), (1, ⟨ty, fr, es, l⟩), (2, ⟨106, (0,0), 0, [.int .i64 x, .int .u64 y]⟩)], 3⟩ 39 dead [])) = some (Ex.ret, [LV.v (V1.one (At.int IntKind.i64 (endV (if isI (rndV (wVal x y) (Int.toNat 0)) = true then rndV (wVal x y) (Int.toNat 0) else 0) (isI (rndV (wVal x y) (Int.toNat 0))) (decide (x < 0)))))], [some { ty := 41, fr := (0, 0), es := 0, cells := [At.bool (hb || endH (if isI (rndV (wVal x y) (Int.toNat 0)) = true then rndV (wVal x y) (Int.toNat 0) else 0) (isI (rndV (wVal x y) (Int.toNat 0))))] }, some { ty := ty, fr := fr, es := es, cells := l }], [(isI x, true), (isU y, true), (decide (0 ≤ 0) && decide (0 ≤ 126), true)]) := by kernel_rfl

theorem memOK3 {nb : Nat} {b0 b1 b2 : Blk} (hnb : 3 ≤ nb) (h0 : okL (below nb) b0.cells = true) (h1 : okL (below nb) b1.cells = true) (h2 : okL (below nb) b2.cells = true) : memOKb nb [(0, b0), (1, b1), (2, b2)] = true := by
  have e0 : Nat.blt 0 nb = true := by rw [nblt]; simp; omega
  have e1 : Nat.blt 1 nb = true := by rw [nblt]; simp; omega
  have e2 : Nat.blt 2 nb = true := by rw [nblt]; simp; omega
  simp only [memOKb, e0, e1, e2, h0, h1, h2]
  rfl
theorem memOK2 {nb : Nat} {b0 b1 : Blk} (hnb : 2 ≤ nb) (h0 : okL (below nb) b0.cells = true) (h1 : okL (below nb) b1.cells = true) : memOKb nb [(0, b0), (1, b1)] = true := by
  have e0 : Nat.blt 0 nb = true := by rw [nblt]; simp; omega
  have e1 : Nat.blt 1 nb = true := by rw [nblt]; simp; omega
  simp only [memOKb, e0, e1, h0, h1]
  rfl
theorem kst_ok {A : Kst} (h1 : liveOKb A.nb A.live = true) (h2 : memOKb A.nb A.mem = true) : KstOK A := by
  obtain ⟨a, b, c⟩ := liveOKb_ok h1
  obtain ⟨d, e⟩ := memOKb_ok h2
  exact ⟨a, b, c, d, e⟩

/-- The clamped numbers' sum; is one out of bounds? -/
def sumS : List Int → Int
  | [] => 0
  | a :: l => satV a + sumS l
def anyH : List Int → Bool
  | [] => false
  | a :: l => satH a || anyH l
theorem sumS_app (l m : List Int) : sumS (l ++ m) = sumS l + sumS m := by
  induction l with
  | nil => simp [sumS]
  | cons a l ih => simp only [List.cons_append, sumS, ih]; omega
theorem anyH_app (l m : List Int) : anyH (l ++ m) = (anyH l || anyH m) := by
  induction l with
  | nil => simp [anyH]
  | cons a l ih => simp only [List.cons_append, anyH, ih, Bool.or_assoc]
theorem sumS_bd (l : List Int) : -(l.length * 1152921504606846976 : Int) ≤ sumS l ∧ sumS l ≤ l.length * 1152921504606846976 := by
  induction l with
  | nil => simp [sumS]
  | cons a l ih =>
    have := sat_bd a
    simp only [sumS, List.length_cons]
    push_cast
    omega
theorem take_snoc {α : Type} (l : List α) (i : Nat) (h : i < l.length) : l.take (i + 1) = l.take i ++ [l[i]] := by rw [List.take_succ_eq_append_getElem h]

def wB (v : Int) : Blk := ⟨106, (0, 0), 0, [.int .i64 (wHi v), .int .u64 (wLo v)]⟩
noncomputable def addBd : Code := c1 (c2 (c2 (bodyF Try.prog 96)))
def adA (k : Blk) (o n c : Nat) (h : Bool) (v : Int) (i : Int) : Kst := ⟨[(0, A0), (5, P2), (10, .v (.one (.slx 1 o n c))), (11, .v (.one (.int .i64 n))), (12, .v (.one (.int .i64 i)))], [(0, flag 41 h), (1, k), (2, wB v)], 3⟩
def adB (k : Blk) (h : Bool) (v : Int) : Kst := ⟨[(0, A0), (5, P2)], [(0, flag 41 h), (1, k), (2, wB v)], 3⟩

theorem addStep (k : Blk) (o n c : Nat) (xs : List Int) (hk : SlAt 1 k o n xs) (hn : n < 1152921504606846976) (hb : Bool) (i : Nat) (hi : i < n) :
    To Try.prog 39 (c1 (c1 (c2 addBd))) (adA k o n c (hb || anyH (xs.take i)) (sumS (xs.take i)) i) .normal (adA k o n c (hb || anyH (xs.take (i + 1))) (sumS (xs.take (i + 1))) ((i : Int) + 1)) := by
  obtain ⟨hlen, hat, hok⟩ := hk
  have hi' : i < xs.length := by omega
  have hx := intAt_of (hat i hi')
  have hs := take_snoc xs i hi'
  have b0 := sumS_bd (xs.take i)
  rw [List.length_take] at b0
  have b1 := sat_bd xs[i]
  have hm : ((min i xs.length : Nat) : Int) = i := by omega
  rw [hm] at b0
  have e1 : sumS (xs.take (i + 1)) = sumS (xs.take i) + satV xs[i] := by rw [hs, sumS_app]; simp [sumS]
  have e2 : (hb || anyH (xs.take (i + 1))) = ((hb || anyH (xs.take i)) || satH xs[i]) := by rw [hs, anyH_app]; simp [anyH, Bool.or_assoc]
  have e3 : ((i : Int)).toNat * 1 = i := by simp
  have e4 : wr .i64 ((i : Int) + 1) = (i : Int) + 1 := w64_in (by omega) (by omega)
  obtain ⟨ty, fr, es, l⟩ := k
  rw [e1, e2]
  generalize sumS (xs.take i) = S at *
  have hi2 := wHi_inI S (by omega) (by omega)
  have hl2 := wLo_in S
  have hi3 := wHi_inI (satV xs[i]) (by omega) (by omega)
  have hl3 := wLo_in (satV xs[i])
  refine To.run (z := Zl) sound15 (slots := [0, 5, 10, 11, 12]) (blks := [0, 1, 2]) (vs := [A0, P2, .v (.one (.slx 1 o n c)), .v (.one (.int .i64 n)), .v (.one (.int .i64 ((i : Int) + 1)))])
    (bs := [flag 41 ((hb || anyH (xs.take i)) || satH xs[i]), ⟨ty, fr, es, l⟩, wB (S + satV xs[i])]) (nbB := 3)
    (fun dead => fc dead (hb || anyH (xs.take i)) o n c ty fr es l (wHi S) (wLo S) i) rfl (by rw [e4]; rfl) (by rw [e3, hx.1]; simp only [wVal_mk]; rfl) ?_ (kst_ok rfl (memOK3 (Nat.le_refl _) rfl (okL_mono noP_below hok) rfl)) (Nat.le_refl _)
  rw [e3, hx.1, hx.2]
  simp only [wVal_mk, all_tt, isI_iff, isU_iff, isW_iff, Bool.and_eq_true, decide_eq_true_eq]
  repeat' apply And.intro
  all_goals first | exact ae_nil | exact True.intro | omega

theorem addEnd (k : Blk) (o n c : Nat) (hok : okL noP k.cells = true) (h : Bool) (v : Int) : To Try.prog 39 (c1 (c1 (c2 addBd))) (adA k o n c h v n) (.exit 0) (adB k h v) := by
  obtain ⟨ty, fr, es, l⟩ := k
  refine To.exec (z := Zl) sound15 (slots := [0, 5]) (blks := [0, 1, 2]) (vs := [A0, P2]) (bs := [flag 41 h, ⟨ty, fr, es, l⟩, wB v]) (nbB := 3) (fun dead => fd dead h o n c ty fr es l (wHi v) (wLo v) n) ?_ (kst_ok rfl (memOK3 (Nat.le_refl _) rfl (okL_mono noP_below hok) rfl)) (Nat.le_refl _)
  simp

theorem addRd (k : Blk) (o n c : Nat) (xs : List Int) (hk : SlAt 1 k o n xs) (hn : n < 1152921504606846976) (hb : Bool) : ∀ (m i : Nat), i + m = n →
    Rd Try.prog 39 (c1 (c1 (c2 addBd))) (m + 1) (adA k o n c (hb || anyH (xs.take i)) (sumS (xs.take i)) i) (.exit 0) (adB k (hb || anyH xs) (sumS xs))
  | 0, i, h => by
    have hi : i = n := by omega
    have hl : xs.length = n := by have := hk.1; omega
    subst hi
    rw [← hl, List.take_length, hl]
    exact Rd.last (by simp) (addEnd k o i c hk.2.2 _ _)
  | m + 1, i, h => by
    have hs := addStep k o n c xs hk hn hb i (by omega)
    refine Rd.next hs ?_
    exact addRd k o n c xs hk hn hb m (i + 1) (by omega)

/-- The sum, clamped; the flag. -/
def faddV (xs : List Int) : Int := satV (sumS xs)
def faddH (xs : List Int) : Bool := anyH xs || satH (sumS xs)
def faddS : List AV → Bool → Option (LV × Bool × List (Bool × Bool))
  | [.ints xs], hb => some (I (faddV xs), hb || faddH xs, [(decide (xs.length < 1152921504606846976), true)])
  | _, _ => none

theorem fnil (hb : Bool) : (runF Try.prog S15 Zl 2000 96 [A0, .v (.one .nilsl)] [(0, flag 41 hb)] 1 []).map (fun r => (r.1, getM r.2.1 0, r.2.2.2)) = some (I 0, some (flag 41 (hb || false)), [(true, true), (true, true), (true, true)]) := by kernel_rfl

theorem rnd0 (v : Int) : rndV v (Int.toNat 0) = v := by
  have h : rndV v 0 = sgn (decide (v < 0)) ((absV v + 0) / 1) := rfl
  show rndV v 0 = v
  rw [h, Int.add_zero, Int.ediv_one, sgn_abs]

theorem sumFadd : SumOK Try.prog 96 (acSum 41 1 faddS) := by
  refine acSum1_ok (own_of sound15 Try.func96 (by kernel_rfl)) (fun avs hb r h => ?_) fun pre xs hb v h' cs hF hc hp hv => ?_
  · unfold faddS at h
    split at h
    · exact ⟨[], _, rfl⟩
    · cases h
  · have hpre : pre = [] := by
      cases pre with
      | nil => rfl
      | cons p pre =>
        simp only [List.map_cons, List.cons_append] at hF
        unfold faddS at hF
        split at hF
        · rename_i he; simp at he
        · cases hF
    subst hpre
    have hF' : some (I (faddV xs), hb || faddH xs, [(decide (xs.length < 1152921504606846976), true)]) = some (v, h', cs) := hF
    cases hF'
    simp only [all_tt, decide_eq_true_eq] at hc
    obtain ⟨hn, -⟩ := hc
    refine ⟨fun k o n c hk _ E w hrel => ?_, fun hx E w hrel => ?_⟩
    · have hlen : xs.length = n := by have := hk.1; omega
      rw [hlen] at hn
      have hok := hk.2.2
      have hR := addRd k o n c xs hk hn hb n 0 (by omega)
      have b0 := sumS_bd xs
      rw [hlen] at b0
      have hi2 := wHi_inI (sumS xs) (by omega) (by omega)
      have hl2 := wLo_in (sumS xs)
      have hend : endV (if isI (sumS xs) = true then sumS xs else 0) (isI (sumS xs)) (decide (wHi (sumS xs) < 0)) = faddV xs := by
        have := end_rnd (sumS xs) 0 (decide (wHi (sumS xs) < 0)) (by rw [wVal_neg hl2.1 hl2.2, wVal_mk])
        have e := rnd0 (sumS xs)
        rw [show Int.toNat 0 = 0 from rfl] at e
        rw [e] at this
        exact this
      obtain ⟨ty, fr, es, l⟩ := k
      refine lcl_of_To (c := bodyF Try.prog 96) (e := .ret) (nb := 2) (B := ⟨[(4, .v (.one (.int .i64 (faddV xs))))], [(0, flag 41 (hb || faddH xs)), (1, ⟨ty, fr, es, l⟩)], 3⟩) Try.func96 (by kernel_rfl) (Nat.le_of_ble_eq_true (by kernel_rfl)) (Nat.le_of_ble_eq_true (by kernel_rfl))
        (fun u hu => ?_) (memOK2 (Nat.le_refl _) rfl (okL_mono noP_below hok)) ?_ (.inr rfl) (fun dead => by kernel_rfl) rfl (fun i b hib => ?_) E w hrel
      · simp only [List.nil_append, List.mem_cons, List.not_mem_nil, or_false] at hu
        rcases hu with rfl | rfl <;> rfl
      · refine To.spineR (z := Zl) sound15 (k := 2) (slots := [0, 1, 4, 5]) (blks := [0, 1, 2]) (vs := [A0, .v (.one (.slx 1 o n c)), .v (.one (.int .i64 0)), P2]) (bs := [flag 41 hb, ⟨ty, fr, es, l⟩, wB 0]) (nbB := 3) (by kernel_rfl) (fun dead => fa dead hb o n c ty fr es l) rfl rfl rfl (by simp) (kst_ok rfl (memOK3 (Nat.le_refl _) rfl (okL_mono noP_below hok) rfl)) (Nat.le_succ 2) ?_
        refine To.seq (by kernel_rfl) (To.seq (by kernel_rfl) (To.exec (z := Zl) sound15 (slots := [0, 5, 10, 11, 12]) (blks := [0, 1, 2]) (vs := [A0, P2, .v (.one (.slx 1 o n c)), .v (.one (.int .i64 n)), .v (.one (.int .i64 0))]) (bs := [flag 41 hb, ⟨ty, fr, es, l⟩, wB 0]) (nbB := 3) (fun dead => fb dead hb o n c ty fr es l 0 0) (by simp) (kst_ok rfl (memOK3 (Nat.le_refl _) rfl (okL_mono noP_below hok) rfl)) (Nat.le_refl _))
          (To.block (id := 0) (by kernel_rfl) (To.loop (m := n + 1) (by kernel_rfl) ?_) (.inl rfl))) (C := _) (B := adB ⟨ty, fr, es, l⟩ (hb || anyH xs) (sumS xs)) ?_
        · have h0 : adA ⟨ty, fr, es, l⟩ o n c (hb || anyH (xs.take 0)) (sumS (xs.take 0)) ((0 : Nat) : Int) = ⟨[0, 5, 10, 11, 12].zip [A0, P2, .v (.one (.slx 1 o n c)), .v (.one (.int .i64 n)), .v (.one (.int .i64 0))], [0, 1, 2].zip [flag 41 hb, ⟨ty, fr, es, l⟩, wB 0], 3⟩ := by
            unfold adA
            simp only [List.take_zero, anyH, Bool.or_false, sumS]
            rfl
          rw [← h0]
          exact hR
        · refine To.run (z := Zl) sound15 (slots := [4]) (blks := [0, 1]) (vs := [.v (.one (.int .i64 (faddV xs)))]) (bs := [flag 41 (hb || faddH xs), ⟨ty, fr, es, l⟩]) (nbB := 3) (fun dead => fe dead (hb || anyH xs) ty fr es l (wHi (sumS xs)) (wLo (sumS xs))) rfl ?_ ?_ ?_ (kst_ok rfl (memOK2 (Nat.le_succ 2) rfl (okL_mono noP_below hok))) (Nat.le_refl _)
          · rw [wVal_mk, rnd0, hend]
          · rw [wVal_mk, rnd0, endH_of, Bool.or_assoc]; rfl
          · simp only [all_tt, isI_iff, isU_iff]
            exact ⟨hi2, hl2, rfl, ae_nil⟩
      · rcases get2 hib with ⟨rfl, rfl⟩ | ⟨rfl, rfl⟩
        · exact ⟨rfl, by decide, rfl⟩
        · exact ⟨rfl, by decide, okL_mono noP_below hok⟩
    · subst hx
      have hrun := fnil hb
      cases hq : runF Try.prog S15 Zl 2000 96 [A0, .v (.one .nilsl)] [(0, flag 41 hb)] 1 [] with
      | none => rw [hq] at hrun; cases hrun
      | some q =>
        obtain ⟨v', m2, nb', cs'⟩ := q
        rw [hq] at hrun
        simp only [Option.map_some, Option.some.injEq, Prod.mk.injEq] at hrun
        obtain ⟨rfl, hm2, rfl⟩ := hrun
        exact lcl_of_run sound15 hq (m' := [(0, flag 41 (hb || faddH []))]) (fun i c hic => by
            obtain ⟨rfl, rfl⟩ := get1 hic
            exact ⟨hm2, Nat.zero_lt_one, rfl⟩) (by simp) rfl (fun a ha => by
            simp only [List.mem_cons, List.not_mem_nil, or_false] at ha
            rcases ha with rfl | rfl <;> rfl) rfl E w hrel

def S16 : FuncId → Option SumK := more S15 96 (acSum 41 1 faddS)
theorem sound16 : Sound Try.prog S16 := sound15.more sumFadd
end Go.Proofs.Ytdkmiliehlhmbaa

/- root: end, Recip, by every path of their runs (printed), and what they come to. -/
namespace Go.Proofs.Ytdkmiliehlhmbaa
open Go.Lr
set_option linter.unusedVariables false
set_option linter.unusedSimpArgs false

theorem xrendR1 (x y : Int) (hb : Bool) : (runF Try.prog S16 Zl 2000 95 [A0, .v (.agg [.int .i64 x, .int .u64 y])] [(0, flag 41 hb)] 1 [some true]).map acc3 = some (LV.v (V1.one (At.int IntKind.i64 (satV 1152921504606846977))), some { ty := 41, fr := (0, 0), es := 0, cells := [At.bool (hb || satH 1152921504606846977)] }, [(!isI (rootW (wVal x y)), true), (decide (x < 0), false), (isI x, true), (isU y, true)]) := by kernel_rfl
theorem xrendR2 (x y : Int) (hb : Bool) : (runF Try.prog S16 Zl 2000 95 [A0, .v (.agg [.int .i64 x, .int .u64 y])] [(0, flag 41 hb)] 1 [some false]).map acc3 = some (LV.v (V1.one (At.int IntKind.i64 (satV (if isI (rootW (wVal x y)) = true then rootW (wVal x y) else 0)))), some { ty := 41, fr := (0, 0), es := 0, cells := [At.bool (hb || satH (if isI (rootW (wVal x y)) = true then rootW (wVal x y) else 0))] }, [(!isI (rootW (wVal x y)), false), (decide (x < 0), false), (isI x, true), (isU y, true)]) := by kernel_rfl
def xrendT (x y : Int) (hb : Bool) : Option (LV × Bool × List (Bool × Bool)) := 
  bif (!isI (rootW (wVal x y))) then some (LV.v (V1.one (At.int IntKind.i64 (satV 1152921504606846977))), (hb || satH 1152921504606846977), [(decide (x < 0), false), (isI x, true), (isU y, true)])
  else some (LV.v (V1.one (At.int IntKind.i64 (satV (if isI (rootW (wVal x y)) = true then rootW (wVal x y) else 0)))), (hb || satH (if isI (rootW (wVal x y)) = true then rootW (wVal x y) else 0)), [(decide (x < 0), false), (isI x, true), (isU y, true)])
def xrendF : List LV → Bool → Option (LV × Bool × List (Bool × Bool))
  | [.v (.agg [.int .i64 x, .int .u64 y])], hb => xrendT x y hb
  | _, _ => none
theorem sumxrend : SumOK Try.prog 95 (accSum 41 xrendF) := by
  refine accSum_run (z := Zl) sound16 (own_of sound16 Try.func95 (by kernel_rfl)) fun args hb v h' cs hF hc => ?_
  unfold xrendF at hF
  split at hF
  · rename_i x y
    unfold xrendT at hF
    rcases bool_cases (!isI (rootW (wVal x y))) with h0 | h0
    · rw [cond_t h0] at hF
      cases hF
      exact ⟨rfl, 2000, [some true], _, xrendR1 x y hb, ae_cons (h0) (ae_cons (hd_of (hc)) (ae_cons (hd_of (tl_of (hc))) (ae_cons (hd_of (tl_of (tl_of (hc)))) (ae_nil))))⟩
    · rw [cond_f h0] at hF
      cases hF
      exact ⟨rfl, 2000, [some false], _, xrendR2 x y hb, ae_cons (h0) (ae_cons (hd_of (hc)) (ae_cons (hd_of (tl_of (hc))) (ae_cons (hd_of (tl_of (tl_of (hc)))) (ae_nil))))⟩
  · cases hF

/-- A root, clamped. -/
def endRS : List LV → Bool → Option (LV × Bool × List (Bool × Bool))
  | [.v (.agg [.int .i64 x, .int .u64 y])], hb => some (I (satV (rootW (wVal x y))), hb || satH (rootW (wVal x y)), [(decide (x < 0), false), (isI x, true), (isU y, true)])
  | _, _ => none
theorem sumRend : SumOK Try.prog 95 (accSum 41 endRS) := by
  refine sumxrend.acc_re fun args hb v h' cs hF hc => ?_
  unfold endRS at hF
  split at hF
  · rename_i x y
    cases hF
    refine ⟨[(decide (x < 0), false), (isI x, true), (isU y, true)], ?_, hc⟩
    show xrendT x y hb = _
    simp only [all_tt, all_ff, isI_iff, isU_iff, decide_eq_false_iff_not] at hc
    obtain ⟨hx, ⟨hx0, hx1⟩, ⟨hy0, hy1⟩, -⟩ := hc
    have hN0 : 0 ≤ wVal x y := by unfold wVal; omega
    have hN1 : wVal x y < 340282366920938463463374607431768211456 := by unfold wVal; omega
    have hr := (rootW_spec hN0 hN1).1
    unfold xrendT
    generalize rootW (wVal x y) = r at *
    by_cases hi : isI r = true
    · rw [cond_f (by rw [hi]; rfl), if_pos hi]; rfl
    · have hi' : isI r = false := by simpa using hi
      rw [cond_t (by rw [hi']; rfl)]
      have hbig : ¬ (-9223372036854775808 ≤ r ∧ r < 9223372036854775808) := fun hh => hi (isI_iff.2 hh)
      rw [sat_hi (a := r) (by omega), satH_out (a := r) (by omega), sat_hi (a := 1152921504606846977) (by omega), satH_out (a := 1152921504606846977) (by omega)]
      rfl
  · cases hF
def S17 : FuncId → Option SumK := more S16 95 (accSum 41 endRS)
theorem sound17 : Sound Try.prog S17 := sound16.more sumRend
end Go.Proofs.Ytdkmiliehlhmbaa

/- root: Sqrt, Hypot: their walks, and what they come to. -/
namespace Go.Proofs.Ytdkmiliehlhmbaa
open Go.Lr
set_option linter.unusedVariables false
set_option linter.unusedSimpArgs false

theorem hb (dead : Nat → Value) (hb : Bool) (o n c : Nat) (ty : TypeId) (fr : Nat × Nat) (es : Nat) (l : List At) (x y : Int) : projS [0,5,12,13,14] [0,1,2] (exec Try.prog S17 Zl 400 (.code (c1 (c1 (c2 (c2 (bodyF Try.prog 77)))))) (Kst.st ⟨[(0, A0), (1, .v (.one (.slx 1 o n c))), (4, .v (.one (.int .i64 0))), (5, P2)], [(0, flag 41 hb), (1, ⟨ty, fr, es, l⟩), (2, ⟨106, (0,0), 0, [.int .i64 x, .int .u64 y]⟩)], 3⟩ 34 dead [])) = some (Ex.normal, [LV.v (V1.one (At.ptr 0 0)), LV.v (V1.one (At.ptr 2 0)), LV.v (V1.one (At.slx 1 (if c = ((Int.ofNat 0)).toNat then o else o + ((Int.ofNat 0)).toNat * 1) ((if (64 : Int) < (n : Int) then 64 else (n : Int)).toNat - ((Int.ofNat 0)).toNat) (c - ((Int.ofNat 0)).toNat))), LV.v (V1.one (At.int IntKind.i64 ↑((if (64 : Int) < (n : Int) then 64 else (n : Int)).toNat - ((Int.ofNat 0)).toNat))), LV.v (V1.one (At.int IntKind.i64 0))], [some { ty := 41, fr := (0, 0), es := 0, cells := [At.bool hb] }, some { ty := ty, fr := fr, es := es, cells := l }, some { ty := 106, fr := (0, 0), es := 0, cells := [At.int IntKind.i64 x, At.int IntKind.u64 y] }], [(decide (0 ≤ (Int.ofNat 0)) && (decide ((Int.ofNat 0) ≤ if 64 < (n : Int) then 64 else (n : Int)) && decide ((if (64 : Int) < (n : Int) then 64 else (n : Int)) ≤ (c : Int))), true)]) := by kernel_rfl
theorem hc (dead : Nat → Value) (hb : Bool) (o n c : Nat) (ty : TypeId) (fr : Nat × Nat) (es : Nat) (l : List At) (x y i : Int) : projS [0,5,12,13,14] [0,1,2] (exec Try.prog S17 Zl 400 (.code (c1 (c1 (c2 (c1 (c2 (c2 (bodyF Try.prog 77)))))))) (Kst.st ⟨[(0, A0), (5, P2), (12, .v (.one (.slx 1 o n c))), (13, .v (.one (.int .i64 n))), (14, .v (.one (.int .i64 i)))], [(0, flag 41 hb), (1, ⟨ty, fr, es, l⟩), (2, ⟨106, (0,0), 0, [.int .i64 x, .int .u64 y]⟩)], 3⟩ 34 dead [some true])) = some (Ex.normal, [LV.v (V1.one (At.ptr 0 0)), LV.v (V1.one (At.ptr 2 0)), LV.v (V1.one (At.slx 1 o n c)), LV.v (V1.one (At.int IntKind.i64 (n : Int))), LV.v (V1.one (At.int IntKind.i64 (wr IntKind.i64 (i + 1))))], [some { ty := 41, fr := (0, 0), es := 0, cells := [At.bool (hb || satH (intAt l (o + i.toNat * 1)))] }, some { ty := ty, fr := fr, es := es, cells := l }, some { ty := 106, fr := (0, 0), es := 0, cells := [At.int IntKind.i64 (wHi (wVal x y + wVal (wHi (satV (intAt l (o + i.toNat * 1)) * satV (intAt l (o + i.toNat * 1)))) (wLo (satV (intAt l (o + i.toNat * 1)) * satV (intAt l (o + i.toNat * 1)))))), At.int IntKind.u64 (wLo (wVal x y + wVal (wHi (satV (intAt l (o + i.toNat * 1)) * satV (intAt l (o + i.toNat * 1)))) (wLo (satV (intAt l (o + i.toNat * 1)) * satV (intAt l (o + i.toNat * 1))))))] }], [(isI x, true), (isU y, true), (isI (wHi (satV (intAt l (o + i.toNat * 1)) * satV (intAt l (o + i.toNat * 1)))), true), (isU (wLo (satV (intAt l (o + i.toNat * 1)) * satV (intAt l (o + i.toNat * 1)))), true), (isW (wVal x y + wVal (wHi (satV (intAt l (o + i.toNat * 1)) * satV (intAt l (o + i.toNat * 1)))) (wLo (satV (intAt l (o + i.toNat * 1)) * satV (intAt l (o + i.toNat * 1))))), true), (isI (satV (intAt l (o + i.toNat * 1))), true), (isI (satV (intAt l (o + i.toNat * 1))), true), (isIntAt IntKind.i64 l (o + i.toNat * 1), true), (decide (0 ≤ i) && decide (i < (n : Int)), true), (decide (i < (n : Int)), true)]) := by kernel_rfl
theorem hd (dead : Nat → Value) (hb : Bool) (o n c : Nat) (ty : TypeId) (fr : Nat × Nat) (es : Nat) (l : List At) (x y i : Int) : projS [0,5] [0,1,2] (exec Try.prog S17 Zl 400 (.code (c1 (c1 (c2 (c1 (c2 (c2 (bodyF Try.prog 77)))))))) (Kst.st ⟨[(0, A0), (5, P2), (12, .v (.one (.slx 1 o n c))), (13, .v (.one (.int .i64 n))), (14, .v (.one (.int .i64 i)))], [(0, flag 41 hb), (1, ⟨ty, fr, es, l⟩), (2, ⟨106, (0,0), 0, [.int .i64 x, .int .u64 y]⟩)], 3⟩ 34 dead [some false])) = some (Ex.exit 0, [LV.v (V1.one (At.ptr 0 0)), LV.v (V1.one (At.ptr 2 0))], [some { ty := 41, fr := (0, 0), es := 0, cells := [At.bool hb] }, some { ty := ty, fr := fr, es := es, cells := l }, some { ty := 106, fr := (0, 0), es := 0, cells := [At.int IntKind.i64 x, At.int IntKind.u64 y] }], [(decide (i < (n : Int)), false)]) := by kernel_rfl
theorem he (dead : Nat → Value) (hb : Bool) (ty : TypeId) (fr : Nat × Nat) (es : Nat) (l : List At) (x y : Int) : projS [4] [0,1] (exec Try.prog S17 Zl 400 (.code (c2 (c2 (c2 (bodyF Try.prog 77))))) (Kst.st ⟨[(0, A0), (5, P2)], [(0, flag 41 hb), (1, ⟨ty, fr, es, l⟩), (2, ⟨106, (0,0), 0, [.int .i64 x, .int .u64 y]⟩)], 3⟩ 34 dead [])) = some (Ex.ret, [LV.v (V1.one (At.int IntKind.i64 (satV (rootW (wVal x y)))))], [some { ty := 41, fr := (0, 0), es := 0, cells := [At.bool (hb || satH (rootW (wVal x y)))] }, some { ty := ty, fr := fr, es := es, cells := l }], [(decide (x < 0), false), (isI x, true), (isU y, true)]) := by kernel_rfl
theorem ha (dead : Nat → Value) (hb : Bool) (o n c : Nat) (ty : TypeId) (fr : Nat × Nat) (es : Nat) (l : List At) : projS [0,1,4,5] [0,1,2] (execL Try.prog S17 Zl 400 (spineL 2 (bodyF Try.prog 77)) (Kst.st ⟨argsL 0 [A0, .v (.one (.slx 1 o n c))], [(0, flag 41 hb), (1, ⟨ty, fr, es, l⟩)], 2⟩ 34 dead [])) = some (Ex.normal, [LV.v (V1.one (At.ptr 0 0)), LV.v (V1.one (At.slx 1 o n c)), LV.v (V1.one (At.int IntKind.i64 0)), LV.v (V1.one (At.ptr 2 0))], [some { ty := 41, fr := (0, 0), es := 0, cells := [At.bool hb] }, some { ty := ty, fr := fr, es := es, cells := l }, some { ty := 106, fr := (0, 0), es := 0, cells := [At.int IntKind.i64 0, At.int IntKind.u64 0] }], []) := by kernel_rfl

/-- The clamped numbers' squares' sum. -/
def sqS : List Int → Int
  | [] => 0
  | a :: l => satV a * satV a + sqS l
theorem sqS_app (l m : List Int) : sqS (l ++ m) = sqS l + sqS m := by
  induction l with
  | nil => simp [sqS]
  | cons a l ih => simp only [List.cons_append, sqS, ih]; omega
theorem sq_bd (a : Int) : 0 ≤ satV a * satV a ∧ satV a * satV a ≤ 1329227995784915872903807060280344576 := by
  have h := satsat a a
  refine ⟨?_, h.2⟩
  by_cases h0 : 0 ≤ satV a
  · exact Int.mul_nonneg h0 h0
  · exact Int.mul_nonneg_of_nonpos_of_nonpos (by omega) (by omega)
theorem sqS_bd (l : List Int) : 0 ≤ sqS l ∧ sqS l ≤ l.length * 1329227995784915872903807060280344576 := by
  induction l with
  | nil => simp [sqS]
  | cons a l ih =>
    have := sq_bd a
    simp only [sqS, List.length_cons]
    push_cast
    omega

noncomputable def hyBd : Code := c1 (c2 (c2 (bodyF Try.prog 77)))
def hyA (k : Blk) (o n c : Nat) (h : Bool) (v : Int) (i : Int) : Kst := ⟨[(0, A0), (5, P2), (12, .v (.one (.slx 1 o n c))), (13, .v (.one (.int .i64 n))), (14, .v (.one (.int .i64 i)))], [(0, flag 41 h), (1, k), (2, wB v)], 3⟩
def hyB (k : Blk) (h : Bool) (v : Int) : Kst := ⟨[(0, A0), (5, P2)], [(0, flag 41 h), (1, k), (2, wB v)], 3⟩

theorem hyStep (k : Blk) (o n c : Nat) (xs : List Int) (hlen : xs.length = n) (hat : IntsAt k.cells o xs) (hok : okL noP k.cells = true) (hn : n ≤ 64) (hb : Bool) (i : Nat) (hi : i < n) :
    To Try.prog 34 (c1 (c1 (c2 hyBd))) (hyA k o n c (hb || anyH (xs.take i)) (sqS (xs.take i)) i) .normal (hyA k o n c (hb || anyH (xs.take (i + 1))) (sqS (xs.take (i + 1))) ((i : Int) + 1)) := by
  have hi' : i < xs.length := by omega
  have hx := intAt_of (hat i hi')
  have hs := take_snoc xs i hi'
  have b0 := sqS_bd (xs.take i)
  rw [List.length_take] at b0
  have b1 := sq_bd xs[i]
  have hm : ((min i xs.length : Nat) : Int) = i := by omega
  rw [hm] at b0
  have e1 : sqS (xs.take (i + 1)) = sqS (xs.take i) + satV xs[i] * satV xs[i] := by rw [hs, sqS_app]; simp [sqS]
  have e2 : (hb || anyH (xs.take (i + 1))) = ((hb || anyH (xs.take i)) || satH xs[i]) := by rw [hs, anyH_app]; simp [anyH, Bool.or_assoc]
  have e3 : ((i : Int)).toNat * 1 = i := by simp
  have e4 : wr .i64 ((i : Int) + 1) = (i : Int) + 1 := w64_in (by omega) (by omega)
  have hI := isI_sat xs[i]
  obtain ⟨ty, fr, es, l⟩ := k
  rw [e1, e2]
  generalize sqS (xs.take i) = S at *
  have hi2 := wHi_inI S (by omega) (by omega)
  have hl2 := wLo_in S
  have hi3 := wHi_inI (satV xs[i] * satV xs[i]) (by omega) (by omega)
  have hl3 := wLo_in (satV xs[i] * satV xs[i])
  refine To.run (z := Zl) sound17 (slots := [0, 5, 12, 13, 14]) (blks := [0, 1, 2]) (vs := [A0, P2, .v (.one (.slx 1 o n c)), .v (.one (.int .i64 n)), .v (.one (.int .i64 ((i : Int) + 1)))])
    (bs := [flag 41 ((hb || anyH (xs.take i)) || satH xs[i]), ⟨ty, fr, es, l⟩, wB (S + satV xs[i] * satV xs[i])]) (nbB := 3)
    (fun dead => hc dead (hb || anyH (xs.take i)) o n c ty fr es l (wHi S) (wLo S) i) rfl (by rw [e4]; rfl) (by rw [e3, hx.1]; simp only [wVal_mk]; rfl) ?_ (kst_ok rfl (memOK3 (Nat.le_refl _) rfl (okL_mono noP_below hok) rfl)) (Nat.le_refl _)
  rw [e3, hx.1, hx.2, hI]
  simp only [wVal_mk, all_tt, isI_iff, isU_iff, isW_iff, Bool.and_eq_true, decide_eq_true_eq]
  repeat' apply And.intro
  all_goals first | exact ae_nil | exact True.intro | omega

theorem hyEnd (k : Blk) (o n c : Nat) (hok : okL noP k.cells = true) (h : Bool) (v : Int) : To Try.prog 34 (c1 (c1 (c2 hyBd))) (hyA k o n c h v n) (.exit 0) (hyB k h v) := by
  obtain ⟨ty, fr, es, l⟩ := k
  refine To.exec (z := Zl) sound17 (slots := [0, 5]) (blks := [0, 1, 2]) (vs := [A0, P2]) (bs := [flag 41 h, ⟨ty, fr, es, l⟩, wB v]) (nbB := 3) (fun dead => hd dead h o n c ty fr es l (wHi v) (wLo v) n) ?_ (kst_ok rfl (memOK3 (Nat.le_refl _) rfl (okL_mono noP_below hok) rfl)) (Nat.le_refl _)
  simp

theorem hyRd (k : Blk) (o n c : Nat) (xs : List Int) (hlen : xs.length = n) (hat : IntsAt k.cells o xs) (hok : okL noP k.cells = true) (hn : n ≤ 64) (hb : Bool) : ∀ (m i : Nat), i + m = n →
    Rd Try.prog 34 (c1 (c1 (c2 hyBd))) (m + 1) (hyA k o n c (hb || anyH (xs.take i)) (sqS (xs.take i)) i) (.exit 0) (hyB k (hb || anyH xs) (sqS xs))
  | 0, i, h => by
    have hi : i = n := by omega
    subst hi
    rw [← hlen, List.take_length, hlen]
    exact Rd.last (by simp) (hyEnd k o i c hok _ _)
  | m + 1, i, h => by
    have hs := hyStep k o n c xs hlen hat hok hn hb i (by omega)
    refine Rd.next hs ?_
    exact hyRd k o n c xs hlen hat hok hn hb m (i + 1) (by omega)

/-- The root of the squares' sum, clamped; the flag. -/
def hypV (xs : List Int) : Int := satV (rootW (sqS (xs.take 64)))
def hypH (xs : List Int) : Bool := anyH (xs.take 64) || satH (rootW (sqS (xs.take 64)))
def fhypS : List AV → Bool → Option (LV × Bool × List (Bool × Bool))
  | [.ints xs], hb => some (I (hypV xs), hb || hypH xs, [])
  | _, _ => none

theorem hnil (hb : Bool) : (runF Try.prog S17 Zl 2000 77 [A0, .v (.one .nilsl)] [(0, flag 41 hb)] 1 []).map (fun r => (r.1, getM r.2.1 0, r.2.2.2)) = some (I (hypV []), some (flag 41 (hb || hypH [])), [(decide ((0 : Int) < 0), false), (isI 0, true), (isU 0, true)]) := by kernel_rfl

theorem IntsAt.take {l : List At} {o : Nat} {xs : List Int} (h : IntsAt l o xs) (m : Nat) : IntsAt l o (xs.take m) := by
  intro j hj
  rw [List.length_take] at hj
  have := h j (by omega)
  rw [this, List.getElem_take]

theorem sumHyp : SumOK Try.prog 77 (acSum 41 1 fhypS) := by
  refine acSum1_ok (own_of sound17 Try.func77 (by kernel_rfl)) (fun avs hb r h => ?_) fun pre xs hb v h' cs hF hcc hp hv => ?_
  · unfold fhypS at h
    split at h
    · exact ⟨[], _, rfl⟩
    · cases h
  · have hpre : pre = [] := by
      cases pre with
      | nil => rfl
      | cons p pre =>
        simp only [List.map_cons, List.cons_append] at hF
        unfold fhypS at hF
        split at hF
        · rename_i he; simp at he
        · cases hF
    subst hpre
    have hF' : some (I (hypV xs), hb || hypH xs, []) = some (v, h', cs) := hF
    cases hF'
    refine ⟨fun k o n c hk hnc E w hrel => ?_, fun hx E w hrel => ?_⟩
    · have hlen : xs.length = n := by have := hk.1; omega
      have hok := hk.2.2
      have hat := IntsAt.take hk.2.1 64
      have hlt : (xs.take 64).length = min n 64 := by rw [List.length_take]; omega
      have hR := hyRd k o (min n 64) c (xs.take 64) hlt hat hok (by omega) hb (min n 64) 0 (by omega)
      have b0 := sqS_bd (xs.take 64)
      rw [hlt] at b0
      have hi2 := wHi_inI (sqS (xs.take 64)) (by omega) (by omega)
      have hl2 := wLo_in (sqS (xs.take 64))
      have hh0 : 0 ≤ wHi (sqS (xs.take 64)) := by unfold wHi; omega
      have eI : (if (64 : Int) < ↑n then 64 else (↑n : Int)) = ((min n 64 : Nat) : Int) := by split <;> omega
      have eN : ((min n 64 : Nat) : Int).toNat - (Int.ofNat 0).toNat = min n 64 := by simp
      have eO : (if c = (Int.ofNat 0).toNat then o else o + (Int.ofNat 0).toNat * 1) = o := by split <;> simp
      have eC : c - (Int.ofNat 0).toNat = c := by simp
      obtain ⟨ty, fr, es, l⟩ := k
      refine lcl_of_To (c := bodyF Try.prog 77) (e := .ret) (nb := 2) (B := ⟨[(4, .v (.one (.int .i64 (hypV xs))))], [(0, flag 41 (hb || hypH xs)), (1, ⟨ty, fr, es, l⟩)], 3⟩) Try.func77 (by kernel_rfl) (Nat.le_of_ble_eq_true (by kernel_rfl)) (Nat.le_of_ble_eq_true (by kernel_rfl))
        (fun u hu => ?_) (memOK2 (Nat.le_refl _) rfl (okL_mono noP_below hok)) ?_ (.inr rfl) (fun dead => by kernel_rfl) rfl (fun i b hib => ?_) E w hrel
      · simp only [List.nil_append, List.mem_cons, List.not_mem_nil, or_false] at hu
        rcases hu with rfl | rfl <;> rfl
      · refine To.spineR (z := Zl) sound17 (k := 2) (slots := [0, 1, 4, 5]) (blks := [0, 1, 2]) (vs := [A0, .v (.one (.slx 1 o n c)), .v (.one (.int .i64 0)), P2]) (bs := [flag 41 hb, ⟨ty, fr, es, l⟩, wB 0]) (nbB := 3) (by kernel_rfl) (fun dead => ha dead hb o n c ty fr es l) rfl rfl rfl (by simp) (kst_ok rfl (memOK3 (Nat.le_refl _) rfl (okL_mono noP_below hok) rfl)) (Nat.le_succ 2) ?_
        refine To.seq (by kernel_rfl) (To.seq (by kernel_rfl) (To.run (z := Zl) sound17 (slots := [0, 5, 12, 13, 14]) (blks := [0, 1, 2]) (vs := [A0, P2, .v (.one (.slx 1 o (min n 64) c)), .v (.one (.int .i64 ((min n 64 : Nat) : Int))), .v (.one (.int .i64 0))]) (bs := [flag 41 hb, ⟨ty, fr, es, l⟩, wB 0]) (nbB := 3) (fun dead => Go.Proofs.Ytdkmiliehlhmbaa.hb dead hb o n c ty fr es l 0 0) rfl (by simp only [eI, eN, eO, eC]; rfl) rfl ?_ (kst_ok rfl (memOK3 (Nat.le_refl _) rfl (okL_mono noP_below hok) rfl)) (Nat.le_refl _))
          (To.block (id := 0) (by kernel_rfl) (To.loop (m := min n 64 + 1) (by kernel_rfl) ?_) (.inl rfl))) (C := _) (B := hyB ⟨ty, fr, es, l⟩ (hb || anyH (xs.take 64)) (sqS (xs.take 64))) ?_
        · simp only [eI, all_tt, Bool.and_eq_true, decide_eq_true_eq]
          have e0 : Int.ofNat 0 = 0 := rfl
          rw [e0]
          exact ⟨⟨by omega, by omega, by omega⟩, ae_nil⟩
        · have h0 : hyA ⟨ty, fr, es, l⟩ o (min n 64) c (hb || anyH ((xs.take 64).take 0)) (sqS ((xs.take 64).take 0)) ((0 : Nat) : Int) = ⟨[0, 5, 12, 13, 14].zip [A0, P2, .v (.one (.slx 1 o (min n 64) c)), .v (.one (.int .i64 ((min n 64 : Nat) : Int))), .v (.one (.int .i64 0))], [0, 1, 2].zip [flag 41 hb, ⟨ty, fr, es, l⟩, wB 0], 3⟩ := by
            unfold hyA
            simp only [List.take_zero, anyH, Bool.or_false, sqS]
            rfl
          rw [← h0]
          exact hR
        · refine To.run (z := Zl) sound17 (slots := [4]) (blks := [0, 1]) (vs := [.v (.one (.int .i64 (hypV xs)))]) (bs := [flag 41 (hb || hypH xs), ⟨ty, fr, es, l⟩]) (nbB := 3) (fun dead => he dead (hb || anyH (xs.take 64)) ty fr es l (wHi (sqS (xs.take 64))) (wLo (sqS (xs.take 64)))) rfl ?_ ?_ ?_ (kst_ok rfl (memOK2 (Nat.le_succ 2) rfl (okL_mono noP_below hok))) (Nat.le_refl _)
          · rw [wVal_mk]; rfl
          · rw [wVal_mk, Bool.or_assoc]; rfl
          · simp only [all_tt, all_ff, isI_iff, isU_iff, decide_eq_false_iff_not]
            exact ⟨by omega, hi2, hl2, ae_nil⟩
      · rcases get2 hib with ⟨rfl, rfl⟩ | ⟨rfl, rfl⟩
        · exact ⟨rfl, by decide, rfl⟩
        · exact ⟨rfl, by decide, okL_mono noP_below hok⟩
    · subst hx
      have hrun := hnil hb
      cases hq : runF Try.prog S17 Zl 2000 77 [A0, .v (.one .nilsl)] [(0, flag 41 hb)] 1 [] with
      | none => rw [hq] at hrun; cases hrun
      | some q =>
        obtain ⟨v', m2, nb', cs'⟩ := q
        rw [hq] at hrun
        simp only [Option.map_some, Option.some.injEq, Prod.mk.injEq] at hrun
        obtain ⟨rfl, hm2, rfl⟩ := hrun
        exact lcl_of_run sound17 hq (m' := [(0, flag 41 (hb || hypH []))]) (fun i c hic => by
            obtain ⟨rfl, rfl⟩ := get1 hic
            exact ⟨hm2, Nat.zero_lt_one, rfl⟩) (ae_cons rfl (ae_cons rfl (ae_cons rfl ae_nil))) rfl (fun a ha => by
            simp only [List.mem_cons, List.not_mem_nil, or_false] at ha
            rcases ha with rfl | rfl <;> rfl) rfl E w hrel

def S18 : FuncId → Option SumK := more S17 77 (acSum 41 1 fhypS)
theorem sound18 : Sound Try.prog S18 := sound17.more sumHyp
end Go.Proofs.Ytdkmiliehlhmbaa

/- fx.Dot: its walk, round by round. -/
namespace Go.Proofs.Ytdkmiliehlhmbaa
open Go.Lr
set_option linter.unusedVariables false
set_option linter.unusedSimpArgs false

theorem dot_two_a (dead : Nat → Value) (hb : Bool) (s : Int) (oa na ca ob nn cb : Nat) (ty : TypeId) (fr : Nat × Nat) (es : Nat) (l : List At) (ty2 : TypeId) (fr2 : Nat × Nat) (es2 : Nat) (l2 : List At) : projS [0,1,2,3,9] [0,1,2,3] (execL Try.prog S18 Zl 400 (spineL 3 (bodyF Try.prog 47)) (Kst.st ⟨argsL 0 [A0, I s, SLX 1 oa na ca, SLX 2 ob nn cb], [(0, flag 41 hb), (1, ⟨ty, fr, es, l⟩), (2, ⟨ty2, fr2, es2, l2⟩)], 3⟩ 53 dead [some false, some false, some false, some false])) = some (Ex.normal, [LV.v (V1.one (At.ptr 0 0)), LV.v (V1.one (At.int IntKind.i64 s)), LV.v (V1.one (At.slx 1 oa na ca)), LV.v (V1.one (At.slx 2 ob nn cb)), LV.v (V1.one (At.ptr 3 0))], [some { ty := 41, fr := (0, 0), es := 0, cells := [At.bool hb] }, some { ty := ty, fr := fr, es := es, cells := l }, some { ty := ty2, fr := fr2, es := es2, cells := l2 }, some { ty := 106, fr := (0, 0), es := 0, cells := [At.int IntKind.i64 0, At.int IntKind.u64 0] }], [(decide (s > 120), false), (decide (s < 0), false), (decide (s < 0), false), (decide (s < 0), false)]) := by kernel_rfl
theorem dot_two_b (dead : Nat → Value) (hb : Bool) (s : Int) (oa na ca ob nn cb : Nat) (ty : TypeId) (fr : Nat × Nat) (es : Nat) (l : List At) (ty2 : TypeId) (fr2 : Nat × Nat) (es2 : Nat) (l2 : List At) (x y : Int) : projS [0,1,2,3,9,25,26] [0,1,2,3] (exec Try.prog S18 Zl 400 (.code (c1 (c1 (c2 (c2 (c2 (bodyF Try.prog 47))))))) (Kst.st ⟨[(0, A0), (1, I s), (2, SLX 1 oa na ca), (3, SLX 2 ob nn cb), (9, .v (.one (.ptr 3 0)))], [(0, flag 41 hb), (1, ⟨ty, fr, es, l⟩), (2, ⟨ty2, fr2, es2, l2⟩), (3, ⟨106, (0,0), 0, [.int .i64 x, .int .u64 y]⟩)], 4⟩ 53 dead [])) = some (Ex.normal, [LV.v (V1.one (At.ptr 0 0)), LV.v (V1.one (At.int IntKind.i64 s)), LV.v (V1.one (At.slx 1 oa na ca)), LV.v (V1.one (At.slx 2 ob nn cb)), LV.v (V1.one (At.ptr 3 0)), LV.v (V1.one (At.int IntKind.i64 (if 100 < if (nn : Int) < (na : Int) then (nn : Int) else (na : Int) then 100 else if (nn : Int) < (na : Int) then (nn : Int) else (na : Int)))), LV.v (V1.one (At.int IntKind.i64 0))], [some { ty := 41, fr := (0, 0), es := 0, cells := [At.bool hb] }, some { ty := ty, fr := fr, es := es, cells := l }, some { ty := ty2, fr := fr2, es := es2, cells := l2 }, some { ty := 106, fr := (0, 0), es := 0, cells := [At.int IntKind.i64 x, At.int IntKind.u64 y] }], []) := by kernel_rfl
theorem dot_two_c (dead : Nat → Value) (hb : Bool) (s : Int) (oa na ca ob nn cb : Nat) (ty : TypeId) (fr : Nat × Nat) (es : Nat) (l : List At) (ty2 : TypeId) (fr2 : Nat × Nat) (es2 : Nat) (l2 : List At) (x y : Int) (mm i : Int) : projS [0,1,2,3,9,25,26] [0,1,2,3] (exec Try.prog S18 Zl 400 (.code (c1 (c1 (c2 (c1 (c2 (c2 (c2 (bodyF Try.prog 47))))))))) (Kst.st ⟨[(0, A0), (1, I s), (2, SLX 1 oa na ca), (3, SLX 2 ob nn cb), (9, .v (.one (.ptr 3 0))), (25, I mm), (26, I i)], [(0, flag 41 hb), (1, ⟨ty, fr, es, l⟩), (2, ⟨ty2, fr2, es2, l2⟩), (3, ⟨106, (0,0), 0, [.int .i64 x, .int .u64 y]⟩)], 4⟩ 53 dead [some true])) = some (Ex.normal, [LV.v (V1.one (At.ptr 0 0)), LV.v (V1.one (At.int IntKind.i64 s)), LV.v (V1.one (At.slx 1 oa na ca)), LV.v (V1.one (At.slx 2 ob nn cb)), LV.v (V1.one (At.ptr 3 0)), LV.v (V1.one (At.int IntKind.i64 mm)), LV.v (V1.one (At.int IntKind.i64 (wr IntKind.i64 (i + 1))))], [some { ty := 41, fr := (0, 0), es := 0, cells := [At.bool (hb || satH (intAt l (oa + i.toNat * 1)) || satH (intAt l2 (ob + i.toNat * 1)))] }, some { ty := ty, fr := fr, es := es, cells := l }, some { ty := ty2, fr := fr2, es := es2, cells := l2 }, some { ty := 106, fr := (0, 0), es := 0, cells := [At.int IntKind.i64 (wHi (wVal x y + wVal (wHi (satV (intAt l (oa + i.toNat * 1)) * satV (intAt l2 (ob + i.toNat * 1)))) (wLo (satV (intAt l (oa + i.toNat * 1)) * satV (intAt l2 (ob + i.toNat * 1)))))), At.int IntKind.u64 (wLo (wVal x y + wVal (wHi (satV (intAt l (oa + i.toNat * 1)) * satV (intAt l2 (ob + i.toNat * 1)))) (wLo (satV (intAt l (oa + i.toNat * 1)) * satV (intAt l2 (ob + i.toNat * 1))))))] }], [(isI x, true), (isU y, true), (isI (wHi (satV (intAt l (oa + i.toNat * 1)) * satV (intAt l2 (ob + i.toNat * 1)))), true), (isU (wLo (satV (intAt l (oa + i.toNat * 1)) * satV (intAt l2 (ob + i.toNat * 1)))), true), (isW (wVal x y + wVal (wHi (satV (intAt l (oa + i.toNat * 1)) * satV (intAt l2 (ob + i.toNat * 1)))) (wLo (satV (intAt l (oa + i.toNat * 1)) * satV (intAt l2 (ob + i.toNat * 1))))), true), (isI (satV (intAt l (oa + i.toNat * 1))), true), (isI (satV (intAt l2 (ob + i.toNat * 1))), true), (isIntAt IntKind.i64 l2 (ob + i.toNat * 1), true), (decide (0 ≤ i) && decide (i < (nn : Int)), true), (isIntAt IntKind.i64 l (oa + i.toNat * 1), true), (decide (0 ≤ i) && decide (i < (na : Int)), true), (decide (i < mm), true)]) := by kernel_rfl
theorem dot_two_d (dead : Nat → Value) (hb : Bool) (s : Int) (oa na ca ob nn cb : Nat) (ty : TypeId) (fr : Nat × Nat) (es : Nat) (l : List At) (ty2 : TypeId) (fr2 : Nat × Nat) (es2 : Nat) (l2 : List At) (x y : Int) (mm i : Int) : projS [0,1,9] [0,1,2,3] (exec Try.prog S18 Zl 400 (.code (c1 (c1 (c2 (c1 (c2 (c2 (c2 (bodyF Try.prog 47))))))))) (Kst.st ⟨[(0, A0), (1, I s), (2, SLX 1 oa na ca), (3, SLX 2 ob nn cb), (9, .v (.one (.ptr 3 0))), (25, I mm), (26, I i)], [(0, flag 41 hb), (1, ⟨ty, fr, es, l⟩), (2, ⟨ty2, fr2, es2, l2⟩), (3, ⟨106, (0,0), 0, [.int .i64 x, .int .u64 y]⟩)], 4⟩ 53 dead [some false])) = some (Ex.exit 0, [LV.v (V1.one (At.ptr 0 0)), LV.v (V1.one (At.int IntKind.i64 s)), LV.v (V1.one (At.ptr 3 0))], [some { ty := 41, fr := (0, 0), es := 0, cells := [At.bool hb] }, some { ty := ty, fr := fr, es := es, cells := l }, some { ty := ty2, fr := fr2, es := es2, cells := l2 }, some { ty := 106, fr := (0, 0), es := 0, cells := [At.int IntKind.i64 x, At.int IntKind.u64 y] }], [(decide (i < mm), false)]) := by kernel_rfl
theorem dot_two_e (dead : Nat → Value) (hb : Bool) (s : Int) (oa na ca ob nn cb : Nat) (ty : TypeId) (fr : Nat × Nat) (es : Nat) (l : List At) (ty2 : TypeId) (fr2 : Nat × Nat) (es2 : Nat) (l2 : List At) (x y : Int) : projS [8] [0,1,2] (exec Try.prog S18 Zl 400 (.code (c2 (c2 (c2 (c2 (bodyF Try.prog 47)))))) (Kst.st ⟨[(0, A0), (1, I s), (9, .v (.one (.ptr 3 0)))], [(0, flag 41 hb), (1, ⟨ty, fr, es, l⟩), (2, ⟨ty2, fr2, es2, l2⟩), (3, ⟨106, (0,0), 0, [.int .i64 x, .int .u64 y]⟩)], 4⟩ 53 dead [])) = some (Ex.ret, [LV.v (V1.one (At.int IntKind.i64 (rndS (wVal x y) s)))], [some { ty := 41, fr := (0, 0), es := 0, cells := [At.bool (hb || rndH (wVal x y) s)] }, some { ty := ty, fr := fr, es := es, cells := l }, some { ty := ty2, fr := fr2, es := es2, cells := l2 }], [(isI x, true), (isU y, true)]) := by kernel_rfl
theorem dot_one_a (dead : Nat → Value) (hb : Bool) (s : Int) (oa na ca ob nn cb : Nat) (ty : TypeId) (fr : Nat × Nat) (es : Nat) (l : List At) : projS [0,1,2,3,9] [0,1,3] (execL Try.prog S18 Zl 400 (spineL 3 (bodyF Try.prog 47)) (Kst.st ⟨argsL 0 [A0, I s, SLX 1 oa na ca, SLX 1 ob nn cb], [(0, flag 41 hb), (1, ⟨ty, fr, es, l⟩)], 3⟩ 53 dead [some false, some false, some false, some false])) = some (Ex.normal, [LV.v (V1.one (At.ptr 0 0)), LV.v (V1.one (At.int IntKind.i64 s)), LV.v (V1.one (At.slx 1 oa na ca)), LV.v (V1.one (At.slx 1 ob nn cb)), LV.v (V1.one (At.ptr 3 0))], [some { ty := 41, fr := (0, 0), es := 0, cells := [At.bool hb] }, some { ty := ty, fr := fr, es := es, cells := l }, some { ty := 106, fr := (0, 0), es := 0, cells := [At.int IntKind.i64 0, At.int IntKind.u64 0] }], [(decide (s > 120), false), (decide (s < 0), false), (decide (s < 0), false), (decide (s < 0), false)]) := by kernel_rfl
theorem dot_one_b (dead : Nat → Value) (hb : Bool) (s : Int) (oa na ca ob nn cb : Nat) (ty : TypeId) (fr : Nat × Nat) (es : Nat) (l : List At) (x y : Int) : projS [0,1,2,3,9,25,26] [0,1,3] (exec Try.prog S18 Zl 400 (.code (c1 (c1 (c2 (c2 (c2 (bodyF Try.prog 47))))))) (Kst.st ⟨[(0, A0), (1, I s), (2, SLX 1 oa na ca), (3, SLX 1 ob nn cb), (9, .v (.one (.ptr 3 0)))], [(0, flag 41 hb), (1, ⟨ty, fr, es, l⟩), (3, ⟨106, (0,0), 0, [.int .i64 x, .int .u64 y]⟩)], 4⟩ 53 dead [])) = some (Ex.normal, [LV.v (V1.one (At.ptr 0 0)), LV.v (V1.one (At.int IntKind.i64 s)), LV.v (V1.one (At.slx 1 oa na ca)), LV.v (V1.one (At.slx 1 ob nn cb)), LV.v (V1.one (At.ptr 3 0)), LV.v (V1.one (At.int IntKind.i64 (if 100 < if (nn : Int) < (na : Int) then (nn : Int) else (na : Int) then 100 else if (nn : Int) < (na : Int) then (nn : Int) else (na : Int)))), LV.v (V1.one (At.int IntKind.i64 0))], [some { ty := 41, fr := (0, 0), es := 0, cells := [At.bool hb] }, some { ty := ty, fr := fr, es := es, cells := l }, some { ty := 106, fr := (0, 0), es := 0, cells := [At.int IntKind.i64 x, At.int IntKind.u64 y] }], []) := by kernel_rfl
theorem dot_one_c (dead : Nat → Value) (hb : Bool) (s : Int) (oa na ca ob nn cb : Nat) (ty : TypeId) (fr : Nat × Nat) (es : Nat) (l : List At) (x y : Int) (mm i : Int) : projS [0,1,2,3,9,25,26] [0,1,3] (exec Try.prog S18 Zl 400 (.code (c1 (c1 (c2 (c1 (c2 (c2 (c2 (bodyF Try.prog 47))))))))) (Kst.st ⟨[(0, A0), (1, I s), (2, SLX 1 oa na ca), (3, SLX 1 ob nn cb), (9, .v (.one (.ptr 3 0))), (25, I mm), (26, I i)], [(0, flag 41 hb), (1, ⟨ty, fr, es, l⟩), (3, ⟨106, (0,0), 0, [.int .i64 x, .int .u64 y]⟩)], 4⟩ 53 dead [some true])) = some (Ex.normal, [LV.v (V1.one (At.ptr 0 0)), LV.v (V1.one (At.int IntKind.i64 s)), LV.v (V1.one (At.slx 1 oa na ca)), LV.v (V1.one (At.slx 1 ob nn cb)), LV.v (V1.one (At.ptr 3 0)), LV.v (V1.one (At.int IntKind.i64 mm)), LV.v (V1.one (At.int IntKind.i64 (wr IntKind.i64 (i + 1))))], [some { ty := 41, fr := (0, 0), es := 0, cells := [At.bool (hb || satH (intAt l (oa + i.toNat * 1)) || satH (intAt l (ob + i.toNat * 1)))] }, some { ty := ty, fr := fr, es := es, cells := l }, some { ty := 106, fr := (0, 0), es := 0, cells := [At.int IntKind.i64 (wHi (wVal x y + wVal (wHi (satV (intAt l (oa + i.toNat * 1)) * satV (intAt l (ob + i.toNat * 1)))) (wLo (satV (intAt l (oa + i.toNat * 1)) * satV (intAt l (ob + i.toNat * 1)))))), At.int IntKind.u64 (wLo (wVal x y + wVal (wHi (satV (intAt l (oa + i.toNat * 1)) * satV (intAt l (ob + i.toNat * 1)))) (wLo (satV (intAt l (oa + i.toNat * 1)) * satV (intAt l (ob + i.toNat * 1))))))] }], [(isI x, true), (isU y, true), (isI (wHi (satV (intAt l (oa + i.toNat * 1)) * satV (intAt l (ob + i.toNat * 1)))), true), (isU (wLo (satV (intAt l (oa + i.toNat * 1)) * satV (intAt l (ob + i.toNat * 1)))), true), (isW (wVal x y + wVal (wHi (satV (intAt l (oa + i.toNat * 1)) * satV (intAt l (ob + i.toNat * 1)))) (wLo (satV (intAt l (oa + i.toNat * 1)) * satV (intAt l (ob + i.toNat * 1))))), true), (isI (satV (intAt l (oa + i.toNat * 1))), true), (isI (satV (intAt l (ob + i.toNat * 1))), true), (isIntAt IntKind.i64 l (ob + i.toNat * 1), true), (decide (0 ≤ i) && decide (i < (nn : Int)), true), (isIntAt IntKind.i64 l (oa + i.toNat * 1), true), (decide (0 ≤ i) && decide (i < (na : Int)), true), (decide (i < mm), true)]) := by kernel_rfl
theorem dot_one_d (dead : Nat → Value) (hb : Bool) (s : Int) (oa na ca ob nn cb : Nat) (ty : TypeId) (fr : Nat × Nat) (es : Nat) (l : List At) (x y : Int) (mm i : Int) : projS [0,1,9] [0,1,3] (exec Try.prog S18 Zl 400 (.code (c1 (c1 (c2 (c1 (c2 (c2 (c2 (bodyF Try.prog 47))))))))) (Kst.st ⟨[(0, A0), (1, I s), (2, SLX 1 oa na ca), (3, SLX 1 ob nn cb), (9, .v (.one (.ptr 3 0))), (25, I mm), (26, I i)], [(0, flag 41 hb), (1, ⟨ty, fr, es, l⟩), (3, ⟨106, (0,0), 0, [.int .i64 x, .int .u64 y]⟩)], 4⟩ 53 dead [some false])) = some (Ex.exit 0, [LV.v (V1.one (At.ptr 0 0)), LV.v (V1.one (At.int IntKind.i64 s)), LV.v (V1.one (At.ptr 3 0))], [some { ty := 41, fr := (0, 0), es := 0, cells := [At.bool hb] }, some { ty := ty, fr := fr, es := es, cells := l }, some { ty := 106, fr := (0, 0), es := 0, cells := [At.int IntKind.i64 x, At.int IntKind.u64 y] }], [(decide (i < mm), false)]) := by kernel_rfl
theorem dot_one_e (dead : Nat → Value) (hb : Bool) (s : Int) (oa na ca ob nn cb : Nat) (ty : TypeId) (fr : Nat × Nat) (es : Nat) (l : List At) (x y : Int) : projS [8] [0,1] (exec Try.prog S18 Zl 400 (.code (c2 (c2 (c2 (c2 (bodyF Try.prog 47)))))) (Kst.st ⟨[(0, A0), (1, I s), (9, .v (.one (.ptr 3 0)))], [(0, flag 41 hb), (1, ⟨ty, fr, es, l⟩), (3, ⟨106, (0,0), 0, [.int .i64 x, .int .u64 y]⟩)], 4⟩ 53 dead [])) = some (Ex.ret, [LV.v (V1.one (At.int IntKind.i64 (rndS (wVal x y) s)))], [some { ty := 41, fr := (0, 0), es := 0, cells := [At.bool (hb || rndH (wVal x y) s)] }, some { ty := ty, fr := fr, es := es, cells := l }], [(isI x, true), (isU y, true)]) := by kernel_rfl
theorem dn_two_neg (hb : Bool) (s : Int) (oa na ca ob nn cb : Nat) (ty : TypeId) (fr : Nat × Nat) (es : Nat) (l : List At) (ty2 : TypeId) (fr2 : Nat × Nat) (es2 : Nat) (l2 : List At) : (runF Try.prog S18 Zl 2000 47 [A0, I s, SLX 1 oa na ca, SLX 2 ob nn cb] [(0, flag 41 hb), (1, ⟨ty, fr, es, l⟩), (2, ⟨ty2, fr2, es2, l2⟩)] 3 [some true, some true, some true, none]).map (fun r => (r.1, getM r.2.1 0, getM r.2.1 1, getM r.2.1 2, r.2.2.2)) = some (LV.v (V1.one (At.int IntKind.i64 (rndS (wVal 0 0) s))), some { ty := 41, fr := (0, 0), es := 0, cells := [At.bool (hb || rndH (wVal 0 0) s)] }, some { ty := ty, fr := fr, es := es, cells := l }, some { ty := ty2, fr := fr2, es := es2, cells := l2 }, [(isI 0, true), (isU 0, true), (decide (s < 0), true), (decide (s < 0), true), (decide (s < 0), true)]) := by kernel_rfl
theorem dn_two_big (hb : Bool) (s : Int) (oa na ca ob nn cb : Nat) (ty : TypeId) (fr : Nat × Nat) (es : Nat) (l : List At) (ty2 : TypeId) (fr2 : Nat × Nat) (es2 : Nat) (l2 : List At) : (runF Try.prog S18 Zl 2000 47 [A0, I s, SLX 1 oa na ca, SLX 2 ob nn cb] [(0, flag 41 hb), (1, ⟨ty, fr, es, l⟩), (2, ⟨ty2, fr2, es2, l2⟩)] 3 [some false, some false, some false, some true]).map (fun r => (r.1, getM r.2.1 0, getM r.2.1 1, getM r.2.1 2, r.2.2.2)) = some (LV.v (V1.one (At.int IntKind.i64 (rndS (wVal 0 0) s))), some { ty := 41, fr := (0, 0), es := 0, cells := [At.bool (hb || rndH (wVal 0 0) s)] }, some { ty := ty, fr := fr, es := es, cells := l }, some { ty := ty2, fr := fr2, es := es2, cells := l2 }, [(isI 0, true), (isU 0, true), (decide (s > 120), true), (decide (s < 0), false), (decide (s < 0), false), (decide (s < 0), false)]) := by kernel_rfl
theorem dn_one_neg (hb : Bool) (s : Int) (oa na ca ob nn cb : Nat) (ty : TypeId) (fr : Nat × Nat) (es : Nat) (l : List At) (ty2 : TypeId) (fr2 : Nat × Nat) (es2 : Nat) (l2 : List At) : (runF Try.prog S18 Zl 2000 47 [A0, I s, SLX 1 oa na ca, SLX 1 ob nn cb] [(0, flag 41 hb), (1, ⟨ty, fr, es, l⟩)] 3 [some true, some true, some true, none]).map (fun r => (r.1, getM r.2.1 0, getM r.2.1 1, getM r.2.1 2, r.2.2.2)) = some (LV.v (V1.one (At.int IntKind.i64 (rndS (wVal 0 0) s))), some { ty := 41, fr := (0, 0), es := 0, cells := [At.bool (hb || rndH (wVal 0 0) s)] }, some { ty := ty, fr := fr, es := es, cells := l }, none, [(isI 0, true), (isU 0, true), (decide (s < 0), true), (decide (s < 0), true), (decide (s < 0), true)]) := by kernel_rfl
theorem dn_one_big (hb : Bool) (s : Int) (oa na ca ob nn cb : Nat) (ty : TypeId) (fr : Nat × Nat) (es : Nat) (l : List At) (ty2 : TypeId) (fr2 : Nat × Nat) (es2 : Nat) (l2 : List At) : (runF Try.prog S18 Zl 2000 47 [A0, I s, SLX 1 oa na ca, SLX 1 ob nn cb] [(0, flag 41 hb), (1, ⟨ty, fr, es, l⟩)] 3 [some false, some false, some false, some true]).map (fun r => (r.1, getM r.2.1 0, getM r.2.1 1, getM r.2.1 2, r.2.2.2)) = some (LV.v (V1.one (At.int IntKind.i64 (rndS (wVal 0 0) s))), some { ty := 41, fr := (0, 0), es := 0, cells := [At.bool (hb || rndH (wVal 0 0) s)] }, some { ty := ty, fr := fr, es := es, cells := l }, none, [(isI 0, true), (isU 0, true), (decide (s > 120), true), (decide (s < 0), false), (decide (s < 0), false), (decide (s < 0), false)]) := by kernel_rfl
theorem dn_left_neg (hb : Bool) (s : Int) (oa na ca ob nn cb : Nat) (ty : TypeId) (fr : Nat × Nat) (es : Nat) (l : List At) (ty2 : TypeId) (fr2 : Nat × Nat) (es2 : Nat) (l2 : List At) : (runF Try.prog S18 Zl 2000 47 [A0, I s, SLX 1 oa na ca, NIL] [(0, flag 41 hb), (1, ⟨ty, fr, es, l⟩)] 2 [some true, some true, some true, none]).map (fun r => (r.1, getM r.2.1 0, getM r.2.1 1, getM r.2.1 2, r.2.2.2)) = some (LV.v (V1.one (At.int IntKind.i64 (rndS (wVal 0 0) s))), some { ty := 41, fr := (0, 0), es := 0, cells := [At.bool (hb || rndH (wVal 0 0) s)] }, some { ty := ty, fr := fr, es := es, cells := l }, none, [(isI 0, true), (isU 0, true), (decide (s < 0), true), (decide (s < 0), true), (decide (s < 0), true)]) := by kernel_rfl
theorem dn_left_big (hb : Bool) (s : Int) (oa na ca ob nn cb : Nat) (ty : TypeId) (fr : Nat × Nat) (es : Nat) (l : List At) (ty2 : TypeId) (fr2 : Nat × Nat) (es2 : Nat) (l2 : List At) : (runF Try.prog S18 Zl 2000 47 [A0, I s, SLX 1 oa na ca, NIL] [(0, flag 41 hb), (1, ⟨ty, fr, es, l⟩)] 2 [some false, some false, some false, some true]).map (fun r => (r.1, getM r.2.1 0, getM r.2.1 1, getM r.2.1 2, r.2.2.2)) = some (LV.v (V1.one (At.int IntKind.i64 (rndS (wVal 0 0) s))), some { ty := 41, fr := (0, 0), es := 0, cells := [At.bool (hb || rndH (wVal 0 0) s)] }, some { ty := ty, fr := fr, es := es, cells := l }, none, [(isI 0, true), (isU 0, true), (decide (s > 120), true), (decide (s < 0), false), (decide (s < 0), false), (decide (s < 0), false)]) := by kernel_rfl
theorem dn_left_in (hb : Bool) (s : Int) (oa na ca ob nn cb : Nat) (ty : TypeId) (fr : Nat × Nat) (es : Nat) (l : List At) (ty2 : TypeId) (fr2 : Nat × Nat) (es2 : Nat) (l2 : List At) : (runF Try.prog S18 Zl 2000 47 [A0, I s, SLX 1 oa na ca, NIL] [(0, flag 41 hb), (1, ⟨ty, fr, es, l⟩)] 2 [some false, some false, some false, some false, some false]).map (fun r => (r.1, getM r.2.1 0, getM r.2.1 1, getM r.2.1 2, r.2.2.2)) = some (LV.v (V1.one (At.int IntKind.i64 (rndS (wVal 0 0) s))), some { ty := 41, fr := (0, 0), es := 0, cells := [At.bool (hb || rndH (wVal 0 0) s)] }, some { ty := ty, fr := fr, es := es, cells := l }, some { ty := 106, fr := (0, 0), es := 0, cells := [At.int IntKind.i64 0, At.int IntKind.u64 0] }, [(isI 0, true), (isU 0, true), (decide (0 < if 100 < if 0 < (na : Int) then 0 else (na : Int) then 100 else if 0 < (na : Int) then 0 else (na : Int)), false), (decide (s > 120), false), (decide (s < 0), false), (decide (s < 0), false), (decide (s < 0), false)]) := by kernel_rfl
theorem dn_right_neg (hb : Bool) (s : Int) (oa na ca ob nn cb : Nat) (ty : TypeId) (fr : Nat × Nat) (es : Nat) (l : List At) (ty2 : TypeId) (fr2 : Nat × Nat) (es2 : Nat) (l2 : List At) : (runF Try.prog S18 Zl 2000 47 [A0, I s, NIL, SLX 1 ob nn cb] [(0, flag 41 hb), (1, ⟨ty, fr, es, l⟩)] 2 [some true, some true, some true, none]).map (fun r => (r.1, getM r.2.1 0, getM r.2.1 1, getM r.2.1 2, r.2.2.2)) = some (LV.v (V1.one (At.int IntKind.i64 (rndS (wVal 0 0) s))), some { ty := 41, fr := (0, 0), es := 0, cells := [At.bool (hb || rndH (wVal 0 0) s)] }, some { ty := ty, fr := fr, es := es, cells := l }, none, [(isI 0, true), (isU 0, true), (decide (s < 0), true), (decide (s < 0), true), (decide (s < 0), true)]) := by kernel_rfl
theorem dn_right_big (hb : Bool) (s : Int) (oa na ca ob nn cb : Nat) (ty : TypeId) (fr : Nat × Nat) (es : Nat) (l : List At) (ty2 : TypeId) (fr2 : Nat × Nat) (es2 : Nat) (l2 : List At) : (runF Try.prog S18 Zl 2000 47 [A0, I s, NIL, SLX 1 ob nn cb] [(0, flag 41 hb), (1, ⟨ty, fr, es, l⟩)] 2 [some false, some false, some false, some true]).map (fun r => (r.1, getM r.2.1 0, getM r.2.1 1, getM r.2.1 2, r.2.2.2)) = some (LV.v (V1.one (At.int IntKind.i64 (rndS (wVal 0 0) s))), some { ty := 41, fr := (0, 0), es := 0, cells := [At.bool (hb || rndH (wVal 0 0) s)] }, some { ty := ty, fr := fr, es := es, cells := l }, none, [(isI 0, true), (isU 0, true), (decide (s > 120), true), (decide (s < 0), false), (decide (s < 0), false), (decide (s < 0), false)]) := by kernel_rfl
theorem dn_right_in (hb : Bool) (s : Int) (oa na ca ob nn cb : Nat) (ty : TypeId) (fr : Nat × Nat) (es : Nat) (l : List At) (ty2 : TypeId) (fr2 : Nat × Nat) (es2 : Nat) (l2 : List At) : (runF Try.prog S18 Zl 2000 47 [A0, I s, NIL, SLX 1 ob nn cb] [(0, flag 41 hb), (1, ⟨ty, fr, es, l⟩)] 2 [some false, some false, some false, some false, some false]).map (fun r => (r.1, getM r.2.1 0, getM r.2.1 1, getM r.2.1 2, r.2.2.2)) = some (LV.v (V1.one (At.int IntKind.i64 (rndS (wVal 0 0) s))), some { ty := 41, fr := (0, 0), es := 0, cells := [At.bool (hb || rndH (wVal 0 0) s)] }, some { ty := ty, fr := fr, es := es, cells := l }, some { ty := 106, fr := (0, 0), es := 0, cells := [At.int IntKind.i64 0, At.int IntKind.u64 0] }, [(isI 0, true), (isU 0, true), (decide (0 < if 100 < if (nn : Int) < 0 then (nn : Int) else 0 then 100 else if (nn : Int) < 0 then (nn : Int) else 0), false), (decide (s > 120), false), (decide (s < 0), false), (decide (s < 0), false), (decide (s < 0), false)]) := by kernel_rfl
theorem dn_none_neg (hb : Bool) (s : Int) (oa na ca ob nn cb : Nat) (ty : TypeId) (fr : Nat × Nat) (es : Nat) (l : List At) (ty2 : TypeId) (fr2 : Nat × Nat) (es2 : Nat) (l2 : List At) : (runF Try.prog S18 Zl 2000 47 [A0, I s, NIL, NIL] [(0, flag 41 hb)] 1 [some true, some true, some true, none]).map (fun r => (r.1, getM r.2.1 0, getM r.2.1 1, getM r.2.1 2, r.2.2.2)) = some (LV.v (V1.one (At.int IntKind.i64 (rndS (wVal 0 0) s))), some { ty := 41, fr := (0, 0), es := 0, cells := [At.bool (hb || rndH (wVal 0 0) s)] }, none, none, [(isI 0, true), (isU 0, true), (decide (s < 0), true), (decide (s < 0), true), (decide (s < 0), true)]) := by kernel_rfl
theorem dn_none_big (hb : Bool) (s : Int) (oa na ca ob nn cb : Nat) (ty : TypeId) (fr : Nat × Nat) (es : Nat) (l : List At) (ty2 : TypeId) (fr2 : Nat × Nat) (es2 : Nat) (l2 : List At) : (runF Try.prog S18 Zl 2000 47 [A0, I s, NIL, NIL] [(0, flag 41 hb)] 1 [some false, some false, some false, some true]).map (fun r => (r.1, getM r.2.1 0, getM r.2.1 1, getM r.2.1 2, r.2.2.2)) = some (LV.v (V1.one (At.int IntKind.i64 (rndS (wVal 0 0) s))), some { ty := 41, fr := (0, 0), es := 0, cells := [At.bool (hb || rndH (wVal 0 0) s)] }, none, none, [(isI 0, true), (isU 0, true), (decide (s > 120), true), (decide (s < 0), false), (decide (s < 0), false), (decide (s < 0), false)]) := by kernel_rfl
theorem dn_none_in (hb : Bool) (s : Int) (oa na ca ob nn cb : Nat) (ty : TypeId) (fr : Nat × Nat) (es : Nat) (l : List At) (ty2 : TypeId) (fr2 : Nat × Nat) (es2 : Nat) (l2 : List At) : (runF Try.prog S18 Zl 2000 47 [A0, I s, NIL, NIL] [(0, flag 41 hb)] 1 [some false, some false, some false, some false, some false]).map (fun r => (r.1, getM r.2.1 0, getM r.2.1 1, getM r.2.1 2, r.2.2.2)) = some (LV.v (V1.one (At.int IntKind.i64 (rndS (wVal 0 0) s))), some { ty := 41, fr := (0, 0), es := 0, cells := [At.bool (hb || rndH (wVal 0 0) s)] }, some { ty := 106, fr := (0, 0), es := 0, cells := [At.int IntKind.i64 0, At.int IntKind.u64 0] }, none, [(isI 0, true), (isU 0, true), (decide (0 < if 100 < if 0 < 0 then 0 else 0 then 100 else if 0 < 0 then 0 else 0), false), (decide (s > 120), false), (decide (s < 0), false), (decide (s < 0), false), (decide (s < 0), false)]) := by kernel_rfl

/-- The products' sum; is one of the numbers out of bounds? -/
def dotS : List Int → List Int → Int
  | a :: l, b :: m => satV a * satV b + dotS l m
  | _, _ => 0
def dotFl : List Int → List Int → Bool
  | a :: l, b :: m => satH a || (satH b || dotFl l m)
  | _, _ => false
theorem dotS_nilr (l : List Int) : dotS l [] = 0 := by cases l <;> rfl
theorem dotFl_nilr (l : List Int) : dotFl l [] = false := by cases l <;> rfl
theorem dotS_app : ∀ (l m : List Int) (a b : Int), l.length = m.length → dotS (l ++ [a]) (m ++ [b]) = dotS l m + satV a * satV b
  | [], [], a, b, _ => by simp [dotS]
  | x :: l, y :: m, a, b, h => by
    have := dotS_app l m a b (by simpa using h)
    simp only [List.cons_append, dotS, this]; omega
theorem dotFl_app : ∀ (l m : List Int) (a b : Int), l.length = m.length → dotFl (l ++ [a]) (m ++ [b]) = (dotFl l m || (satH a || satH b))
  | [], [], a, b, _ => by simp [dotFl]
  | x :: l, y :: m, a, b, h => by
    have := dotFl_app l m a b (by simpa using h)
    simp only [List.cons_append, dotFl, this, Bool.or_assoc]
theorem dot_min : ∀ (xs ys : List Int) (n k : Nat), n ≤ k → (n = k ∨ xs.length ≤ n ∨ ys.length ≤ n) → dotS (xs.take n) (ys.take n) = dotS (xs.take k) (ys.take k) ∧ dotFl (xs.take n) (ys.take n) = dotFl (xs.take k) (ys.take k)
  | [], ys, n, k, _, _ => by simp [dotS, dotFl]
  | x :: xs, [], n, k, _, _ => by simp [dotS_nilr, dotFl_nilr]
  | x :: xs, y :: ys, 0, k, _, h => by
    have : k = 0 := by simp at h; omega
    subst this; exact ⟨rfl, rfl⟩
  | x :: xs, y :: ys, n + 1, 0, h, _ => by omega
  | x :: xs, y :: ys, n + 1, k + 1, h, h' => by
    have := dot_min xs ys n k (by omega) (by simp at h'; omega)
    refine ⟨?_, ?_⟩ <;> simp only [List.take_succ_cons, dotS, dotFl, this.1, this.2]
theorem dotS_bd : ∀ (l m : List Int), -(l.length * 1329227995784915872903807060280344576 : Int) ≤ dotS l m ∧ dotS l m ≤ l.length * 1329227995784915872903807060280344576
  | [], m => by simp [dotS]
  | a :: l, [] => by
    rw [dotS_nilr]
    have : (0 : Int) ≤ ((a :: l).length : Int) * 1329227995784915872903807060280344576 := Int.mul_nonneg (by omega) (by decide)
    omega
  | a :: l, b :: m => by
    have h1 := dotS_bd l m
    have h2 := satsat a b
    simp only [dotS, List.length_cons]
    push_cast
    omega
theorem dot_bds {D p : Int} {i m : Nat} (hi : i < m) (hm : m ≤ 100) (b0 : -((i : Int) * 1329227995784915872903807060280344576) ≤ D ∧ D ≤ i * 1329227995784915872903807060280344576) (b1 : -1329227995784915872903807060280344576 ≤ p ∧ p ≤ 1329227995784915872903807060280344576) :
    (-170141183460469231731687303715884105728 ≤ D ∧ D < 170141183460469231731687303715884105728) ∧ (-170141183460469231731687303715884105728 ≤ p ∧ p < 170141183460469231731687303715884105728) ∧ (-170141183460469231731687303715884105728 ≤ D + p ∧ D + p < 170141183460469231731687303715884105728) := by omega
theorem dot_bdn {D : Int} {n k : Nat} (b0 : -(((min 100 n : Nat) : Int) * 1329227995784915872903807060280344576) ≤ D ∧ D ≤ ((min 100 n : Nat) : Int) * 1329227995784915872903807060280344576) :
    -170141183460469231731687303715884105728 ≤ D ∧ D < 170141183460469231731687303715884105728 := by omega

def dotV (s : Int) (xs ys : List Int) : Int := rndS (dotS (xs.take 100) (ys.take 100)) s
def dotH (s : Int) (xs ys : List Int) : Bool := dotFl (xs.take 100) (ys.take 100) || rndH (dotS (xs.take 100) (ys.take 100)) s
def fdotS : List AV → Bool → Option (LV × Bool × List (Bool × Bool))
  | [.pl (.v (.one (.int .i64 s))), .ints xs, .ints ys], hb => some (I (dotV s xs ys), hb || dotH s xs ys, [])
  | _, _ => none

theorem dot_nil {s : Int} {xs ys : List Int} (h : xs = [] ∨ ys = []) (hb : Bool) : rndS (wVal 0 0) s = dotV s xs ys ∧ (hb || rndH (wVal 0 0) s) = (hb || dotH s xs ys) := by
  have e : wVal 0 0 = 0 := rfl
  unfold dotV dotH
  rcases h with rfl | rfl
  · simp [dotS, dotFl, e]
  · simp [dotS_nilr, dotFl_nilr, e]
theorem dot_out {s : Int} (h : s < 0 ∨ s > 120) (xs ys : List Int) (hb : Bool) : rndS (wVal 0 0) s = dotV s xs ys ∧ (hb || rndH (wVal 0 0) s) = (hb || dotH s xs ys) := by
  unfold dotV dotH rndS rndH
  rcases h with h | h
  · simp [h]
  · have : ¬ s < 0 := by omega
    simp [h, this]

section
variable {P : Program} {S : FuncId → Option SumK} {z : Md}
theorem lcl3 (hs : Sound P S) {n : Nat} {f : FuncId} {args : List LV} {m m' : Mem} {nb : Nat} {dec : List (Option Bool)} {v : LV} {b0 b1 b2 : Option Blk} {cs : List (Bool × Bool)}
    (hrun : (runF P S z n f args m nb dec).map (fun r => (r.1, getM r.2.1 0, getM r.2.1 1, getM r.2.1 2, r.2.2.2)) = some (v, b0, b1, b2, cs))
    (hg : ∀ i b, getM m' i = some b → (i = 0 ∧ b0 = some b ∨ i = 1 ∧ b1 = some b ∨ i = 2 ∧ b2 = some b) ∧ i < nb ∧ okL (below nb) b.cells = true) (hc : ∀ c ∈ cs, c.1 = c.2) (hm : memOKb nb m = true) (ha : ∀ u ∈ args, u.ok (below nb) = true) (hv : v.ok noP = true)
    (E : Env) (w : World) (hrel : Rel E (getM m) w) : Calls P f (args.map (LV.den E)).toArray w fun e w' => e = .returned (v.den E0) ∧ Lcl E m m' w w' := by
  cases hq : runF P S z n f args m nb dec with
  | none => rw [hq] at hrun; cases hrun
  | some q =>
    obtain ⟨v', m2, nb', cs'⟩ := q
    rw [hq] at hrun
    simp only [Option.map_some, Option.some.injEq, Prod.mk.injEq] at hrun
    obtain ⟨rfl, e0, e1, e2, rfl⟩ := hrun
    refine lcl_of_run hs hq (fun i b hib => ?_) hc hm ha hv E w hrel
    obtain ⟨h, h2⟩ := hg i b hib
    refine ⟨?_, h2⟩
    rcases h with ⟨rfl, h⟩ | ⟨rfl, h⟩ | ⟨rfl, h⟩
    · rw [e0, h]
    · rw [e1, h]
    · rw [e2, h]
end
theorem cs_neg {s : Int} (h : s < 0) : ∀ c ∈ [(isI 0, true), (isU 0, true), (decide (s < 0), true), (decide (s < 0), true), (decide (s < 0), true)], c.1 = c.2 := by
  have h1 : isI 0 = true := by decide
  have h2 : isU 0 = true := by decide
  rw [h1, h2, decide_eq_true h]; simp
theorem cs_big {s : Int} (h : s > 120) : ∀ c ∈ [(isI 0, true), (isU 0, true), (decide (s > 120), true), (decide (s < 0), false), (decide (s < 0), false), (decide (s < 0), false)], c.1 = c.2 := by
  have h1 : isI 0 = true := by decide
  have h2 : isU 0 = true := by decide
  rw [h1, h2, decide_eq_true h, decide_eq_false (show ¬ s < 0 by omega)]; simp
theorem cs_in {s : Int} {b : Bool} (hb : b = false) (h0 : 0 ≤ s) (h : s ≤ 120) : ∀ c ∈ [(isI 0, true), (isU 0, true), (b, false), (decide (s > 120), false), (decide (s < 0), false), (decide (s < 0), false), (decide (s < 0), false)], c.1 = c.2 := by
  have h1 : isI 0 = true := by decide
  have h2 : isU 0 = true := by decide
  rw [h1, h2, hb, decide_eq_false (show ¬ s > 120 by omega), decide_eq_false (show ¬ s < 0 by omega)]; simp
theorem memOK4 {nb : Nat} {b0 b1 b2 b3 : Blk} (hnb : 4 ≤ nb) (h0 : okL (below nb) b0.cells = true) (h1 : okL (below nb) b1.cells = true) (h2 : okL (below nb) b2.cells = true) (h3 : okL (below nb) b3.cells = true) : memOKb nb [(0, b0), (1, b1), (2, b2), (3, b3)] = true := by
  have e0 : Nat.blt 0 nb = true := by rw [nblt]; simp; omega
  have e1 : Nat.blt 1 nb = true := by rw [nblt]; simp; omega
  have e2 : Nat.blt 2 nb = true := by rw [nblt]; simp; omega
  have e3 : Nat.blt 3 nb = true := by rw [nblt]; simp; omega
  simp only [memOKb, e0, e1, e2, e3, h0, h1, h2, h3]
  rfl
theorem memOK3' {nb : Nat} {b0 b1 b3 : Blk} (hnb : 4 ≤ nb) (h0 : okL (below nb) b0.cells = true) (h1 : okL (below nb) b1.cells = true) (h3 : okL (below nb) b3.cells = true) : memOKb nb [(0, b0), (1, b1), (3, b3)] = true := by
  have e0 : Nat.blt 0 nb = true := by rw [nblt]; simp; omega
  have e1 : Nat.blt 1 nb = true := by rw [nblt]; simp; omega
  have e3 : Nat.blt 3 nb = true := by rw [nblt]; simp; omega
  simp only [memOKb, e0, e1, e3, h0, h1, h3]
  rfl
theorem memOK1 {nb : Nat} {b0 : Blk} (hnb : 1 ≤ nb) (h0 : okL (below nb) b0.cells = true) : memOKb nb [(0, b0)] = true := by
  have e0 : Nat.blt 0 nb = true := by rw [nblt]; simp; omega
  simp only [memOKb, e0, h0]
  rfl
def P3 : LV := .v (.one (.ptr 3 0))
noncomputable def doBd : Code := c2 (c2 (c2 (bodyF Try.prog 47)))

def dAtwo (k1 k2 : Blk) (s : Int) (oa na ca ob nn cb : Nat) (h : Bool) (v mm i : Int) : Kst := ⟨[(0, A0), (1, I s), (2, SLX 1 oa na ca), (3, SLX 2 ob nn cb), (9, P3), (25, I mm), (26, I i)], [(0, flag 41 h), (1, k1), (2, k2), (3, wB v)], 4⟩
def dBtwo (k1 k2 : Blk) (s : Int) (h : Bool) (v : Int) : Kst := ⟨[(0, A0), (1, I s), (9, P3)], [(0, flag 41 h), (1, k1), (2, k2), (3, wB v)], 4⟩
theorem dSteptwo (k1 k2 : Blk) (s : Int) (oa na ca ob nn cb : Nat) (xs ys : List Int) (hx : SlAt 1 k1 oa na xs) (hy : SlAt 1 k2 ob nn ys) (hb : Bool) (m : Nat) (hm : m ≤ 100) (hma : m ≤ na) (hmb : m ≤ nn) (i : Nat) (hi : i < m) :
    To Try.prog 53 (c1 (c1 (c2 (c1 doBd)))) (dAtwo k1 k2 s oa na ca ob nn cb (hb || dotFl (xs.take i) (ys.take i)) (dotS (xs.take i) (ys.take i)) m i) .normal (dAtwo k1 k2 s oa na ca ob nn cb (hb || dotFl (xs.take (i + 1)) (ys.take (i + 1))) (dotS (xs.take (i + 1)) (ys.take (i + 1))) m ((i : Int) + 1)) := by
  obtain ⟨hlen, hat, hok⟩ := hx
  obtain ⟨hlen2, hat2, hok2⟩ := hy
  have ix : i < xs.length := by omega
  have iy : i < ys.length := by omega
  have hx := intAt_of (hat i ix)
  have hy := intAt_of (hat2 i iy)
  have b0 := dotS_bd (xs.take i) (ys.take i)
  rw [List.length_take] at b0
  have b1 := satsat xs[i] ys[i]
  have hmi : ((min i xs.length : Nat) : Int) = i := by omega
  rw [hmi] at b0
  have e0 : (xs.take i).length = (ys.take i).length := by simp only [List.length_take]; omega
  have e1 : dotS (xs.take (i + 1)) (ys.take (i + 1)) = dotS (xs.take i) (ys.take i) + satV xs[i] * satV ys[i] := by rw [take_snoc xs i ix, take_snoc ys i iy, dotS_app _ _ _ _ e0]
  have e2 : (hb || dotFl (xs.take (i + 1)) (ys.take (i + 1))) = (((hb || dotFl (xs.take i) (ys.take i)) || satH xs[i]) || satH ys[i]) := by rw [take_snoc xs i ix, take_snoc ys i iy, dotFl_app _ _ _ _ e0]; simp [Bool.or_assoc]
  have e3 : ((i : Int)).toNat * 1 = i := by simp
  have e4 : wr .i64 ((i : Int) + 1) = (i : Int) + 1 := w64_in (by omega) (by omega)
  have hI := isI_sat xs[i]
  have hI2 := isI_sat ys[i]
  obtain ⟨ty, fr, es, l⟩ := k1
  obtain ⟨ty2, fr2, es2, l2⟩ := k2
  rw [e1, e2]
  generalize dotS (xs.take i) (ys.take i) = D at *
  obtain ⟨⟨bD0, bD1⟩, ⟨bp0, bp1⟩, bs0, bs1⟩ := dot_bds hi hm b0 b1
  obtain ⟨i2a, i2b⟩ := wHi_inI D bD0 bD1
  obtain ⟨l2a, l2b⟩ := wLo_in D
  obtain ⟨i3a, i3b⟩ := wHi_inI (satV xs[i] * satV ys[i]) bp0 bp1
  obtain ⟨l3a, l3b⟩ := wLo_in (satV xs[i] * satV ys[i])
  have j0 : (0 : Int) ≤ (i : Int) := Int.natCast_nonneg i
  have j1 : (i : Int) < (na : Int) := Int.ofNat_lt.2 (Nat.lt_of_lt_of_le hi hma)
  have j2 : (i : Int) < (nn : Int) := Int.ofNat_lt.2 (Nat.lt_of_lt_of_le hi hmb)
  have j3 : (i : Int) < (m : Int) := Int.ofNat_lt.2 hi
  refine To.run (z := Zl) sound18 (slots := [0, 1, 2, 3, 9, 25, 26]) (blks := [0, 1, 2, 3]) (vs := [A0, I s, SLX 1 oa na ca, SLX 2 ob nn cb, P3, I m, I ((i : Int) + 1)])
    (bs := [flag 41 (((hb || dotFl (xs.take i) (ys.take i)) || satH xs[i]) || satH ys[i]), ⟨ty, fr, es, l⟩, ⟨ty2, fr2, es2, l2⟩, wB (D + satV xs[i] * satV ys[i])]) (nbB := 4)
    (fun dead => dot_two_c dead (hb || dotFl (xs.take i) (ys.take i)) s oa na ca ob nn cb ty fr es l ty2 fr2 es2 l2 (wHi D) (wLo D) m i) rfl (by rw [e4]; rfl) (by rw [e3, hx.1, hy.1]; simp only [wVal_mk]; rfl) ?_ (kst_ok rfl (memOK4 (Nat.le_refl _) rfl (okL_mono noP_below hok) (okL_mono noP_below hok2) rfl)) (Nat.le_refl _)
  rw [e3, hx.1, hx.2, hy.1, hy.2, hI, hI2]
  simp only [wVal_mk, all_tt, isI_iff, isU_iff, isW_iff, Bool.and_eq_true, decide_eq_true_eq]
  repeat' apply And.intro
  all_goals first | exact ae_nil | exact True.intro | assumption
theorem dEndtwo (k1 k2 : Blk) (s : Int) (oa na ca ob nn cb : Nat) (hok : okL noP k1.cells = true) (hok2 : okL noP k2.cells = true) (h : Bool) (v : Int) (m : Nat) : To Try.prog 53 (c1 (c1 (c2 (c1 doBd)))) (dAtwo k1 k2 s oa na ca ob nn cb h v m m) (.exit 0) (dBtwo k1 k2 s h v) := by
  obtain ⟨ty, fr, es, l⟩ := k1
  obtain ⟨ty2, fr2, es2, l2⟩ := k2
  refine To.exec (z := Zl) sound18 (slots := [0, 1, 9]) (blks := [0, 1, 2, 3]) (vs := [A0, I s, P3]) (bs := [flag 41 h, ⟨ty, fr, es, l⟩, ⟨ty2, fr2, es2, l2⟩, wB v]) (nbB := 4) (fun dead => dot_two_d dead h s oa na ca ob nn cb ty fr es l ty2 fr2 es2 l2 (wHi v) (wLo v) m m) ?_ (kst_ok rfl (memOK4 (Nat.le_refl _) rfl (okL_mono noP_below hok) (okL_mono noP_below hok2) rfl)) (Nat.le_refl _)
  simp
theorem dRdtwo (k1 k2 : Blk) (s : Int) (oa na ca ob nn cb : Nat) (xs ys : List Int) (hx : SlAt 1 k1 oa na xs) (hy : SlAt 1 k2 ob nn ys) (hb : Bool) (m : Nat) (hm : m ≤ 100) (hma : m ≤ na) (hmb : m ≤ nn) : ∀ (j i : Nat), i + j = m →
    Rd Try.prog 53 (c1 (c1 (c2 (c1 doBd)))) (j + 1) (dAtwo k1 k2 s oa na ca ob nn cb (hb || dotFl (xs.take i) (ys.take i)) (dotS (xs.take i) (ys.take i)) m i) (.exit 0) (dBtwo k1 k2 s (hb || dotFl (xs.take m) (ys.take m)) (dotS (xs.take m) (ys.take m)))
  | 0, i, h => by
    have hi : i = m := by omega
    subst hi
    exact Rd.last (by simp) (dEndtwo k1 k2 s oa na ca ob nn cb hx.2.2 hy.2.2 _ _ i)
  | j + 1, i, h => Rd.next (dSteptwo k1 k2 s oa na ca ob nn cb xs ys hx hy hb m hm hma hmb i (by omega)) (dRdtwo k1 k2 s oa na ca ob nn cb xs ys hx hy hb m hm hma hmb j (i + 1) (by omega))

theorem dIntwo (k1 k2 : Blk) (s : Int) (h0 : 0 ≤ s) (h1 : s ≤ 120) (oa na ca ob nn cb : Nat) (xs ys : List Int) (hx : SlAt 1 k1 oa na xs) (hy : SlAt 1 k2 ob nn ys) (hb : Bool) (E : Env) (w : World) (hrel : Rel E (getM [(0, flag 41 hb), (1, k1), (2, k2)]) w) :
    Calls Try.prog 47 ((A0 :: ([I s] ++ [SLX 1 oa na ca, SLX 2 ob nn cb])).map (LV.den E)).toArray w fun e w' => e = .returned ((I (dotV s xs ys)).den E0) ∧ Lcl E [(0, flag 41 hb), (1, k1), (2, k2)] [(0, flag 41 (hb || dotH s xs ys)), (1, k1), (2, k2)] w w' := by
  have hxl : xs.length = na := by have := hx.1; omega
  have hyl : ys.length = nn := by have := hy.1; omega
  have hok := hx.2.2
  have hok2 := hy.2.2
  have hm : min (min na nn) 100 ≤ 100 := by omega
  have hR := dRdtwo k1 k2 s oa na ca ob nn cb xs ys hx hy hb (min (min na nn) 100) (by omega) (by omega) (by omega) (min (min na nn) 100) 0 (by omega)
  have hmin := dot_min xs ys (min (min na nn) 100) 100 (by omega) (by omega)
  rw [hmin.1, hmin.2] at hR
  have eI : (if (100 : Int) < if (nn : Int) < (na : Int) then (nn : Int) else (na : Int) then 100 else if (nn : Int) < (na : Int) then (nn : Int) else (na : Int)) = ((min (min na nn) 100 : Nat) : Int) := by (repeat' split) <;> omega
  generalize min (min na nn) 100 = m at *
  have b0 := dotS_bd (xs.take 100) (ys.take 100)
  rw [List.length_take] at b0
  have hV : dotV s xs ys = rndS (dotS (xs.take 100) (ys.take 100)) s := rfl
  have hH : (hb || dotH s xs ys) = ((hb || dotFl (xs.take 100) (ys.take 100)) || rndH (dotS (xs.take 100) (ys.take 100)) s) := by unfold dotH; rw [Bool.or_assoc]
  rw [hV, hH]
  generalize dotS (xs.take 100) (ys.take 100) = D at *
  obtain ⟨bD0, bD1⟩ := dot_bdn (k := 0) b0
  have hi2 := wHi_inI D bD0 bD1
  have hl2 := wLo_in D
  have hs1 : decide (s > 120) = false := decide_eq_false (by omega)
  have hs0 : decide (s < 0) = false := decide_eq_false (by omega)
  obtain ⟨ty, fr, es, l⟩ := k1
  obtain ⟨ty2, fr2, es2, l2⟩ := k2
  refine lcl_of_To (c := bodyF Try.prog 47) (e := .ret) (nb := 3) (B := ⟨[(8, I (rndS D s))], [(0, flag 41 ((hb || dotFl (xs.take 100) (ys.take 100)) || rndH D s)), (1, ⟨ty, fr, es, l⟩), (2, ⟨ty2, fr2, es2, l2⟩)], 4⟩) Try.func47 (by kernel_rfl) (Nat.le_of_ble_eq_true (by kernel_rfl)) (Nat.le_of_ble_eq_true (by kernel_rfl))
    (fun u hu => ?_) (memOK3 (Nat.le_refl _) rfl (okL_mono noP_below hok) (okL_mono noP_below hok2)) ?_ (.inr rfl) (fun dead => by kernel_rfl) rfl (fun i b hib => ?_) E w hrel
  · simp only [List.cons_append, List.nil_append, List.mem_cons, List.not_mem_nil, or_false] at hu
    rcases hu with rfl | rfl | rfl | rfl <;> rfl
  · refine To.spineR (z := Zl) sound18 (k := 3) (slots := [0, 1, 2, 3, 9]) (blks := [0, 1, 2, 3]) (vs := [A0, I s, SLX 1 oa na ca, SLX 2 ob nn cb, P3]) (bs := [flag 41 hb, ⟨ty, fr, es, l⟩, ⟨ty2, fr2, es2, l2⟩, wB 0]) (nbB := 4) (by kernel_rfl) (fun dead => dot_two_a dead hb s oa na ca ob nn cb ty fr es l ty2 fr2 es2 l2) rfl rfl rfl (by rw [hs1, hs0]; simp) (kst_ok rfl (memOK4 (Nat.le_refl _) rfl (okL_mono noP_below hok) (okL_mono noP_below hok2) rfl)) (Nat.le_succ 3) ?_
    refine To.seq (by kernel_rfl) (To.seq (by kernel_rfl) (To.run (z := Zl) sound18 (slots := [0, 1, 2, 3, 9, 25, 26]) (blks := [0, 1, 2, 3]) (vs := [A0, I s, SLX 1 oa na ca, SLX 2 ob nn cb, P3, I m, I 0]) (bs := [flag 41 hb, ⟨ty, fr, es, l⟩, ⟨ty2, fr2, es2, l2⟩, wB 0]) (nbB := 4) (fun dead => dot_two_b dead hb s oa na ca ob nn cb ty fr es l ty2 fr2 es2 l2 0 0) rfl (by simp only [eI]; rfl) rfl ae_nil (kst_ok rfl (memOK4 (Nat.le_refl _) rfl (okL_mono noP_below hok) (okL_mono noP_below hok2) rfl)) (Nat.le_refl _))
      (To.block (id := 0) (by kernel_rfl) (To.loop (m := m + 1) (by kernel_rfl) ?_) (.inl rfl))) (C := _) (B := dBtwo ⟨ty, fr, es, l⟩ ⟨ty2, fr2, es2, l2⟩ s (hb || dotFl (xs.take 100) (ys.take 100)) D) ?_
    · simp only [List.take_zero, dotFl, Bool.or_false, dotS] at hR
      exact hR
    · refine To.run (z := Zl) sound18 (slots := [8]) (blks := [0, 1, 2]) (vs := [I (rndS D s)]) (bs := [flag 41 ((hb || dotFl (xs.take 100) (ys.take 100)) || rndH D s), ⟨ty, fr, es, l⟩, ⟨ty2, fr2, es2, l2⟩]) (nbB := 4) (fun dead => dot_two_e dead (hb || dotFl (xs.take 100) (ys.take 100)) s oa na ca ob nn cb ty fr es l ty2 fr2 es2 l2 (wHi D) (wLo D)) rfl ?_ ?_ ?_ (kst_ok rfl (memOK3 (Nat.le_of_ble_eq_true rfl) rfl (okL_mono noP_below hok) (okL_mono noP_below hok2))) (Nat.le_refl _)
      · rw [wVal_mk]; rfl
      · rw [wVal_mk]; rfl
      · simp only [all_tt, isI_iff, isU_iff]
        exact ⟨hi2, hl2, ae_nil⟩
  · rcases get3 hib with ⟨rfl, rfl⟩ | ⟨rfl, rfl⟩ | ⟨rfl, rfl⟩
    · exact ⟨rfl, by decide, rfl⟩
    · exact ⟨rfl, by decide, okL_mono noP_below hok⟩
    · exact ⟨rfl, by decide, okL_mono noP_below hok2⟩

def dAone (k1 : Blk) (s : Int) (oa na ca ob nn cb : Nat) (h : Bool) (v mm i : Int) : Kst := ⟨[(0, A0), (1, I s), (2, SLX 1 oa na ca), (3, SLX 1 ob nn cb), (9, P3), (25, I mm), (26, I i)], [(0, flag 41 h), (1, k1), (3, wB v)], 4⟩
def dBone (k1 : Blk) (s : Int) (h : Bool) (v : Int) : Kst := ⟨[(0, A0), (1, I s), (9, P3)], [(0, flag 41 h), (1, k1), (3, wB v)], 4⟩
theorem dStepone (k1 : Blk) (s : Int) (oa na ca ob nn cb : Nat) (xs ys : List Int) (hx : SlAt 1 k1 oa na xs) (hy : SlAt 1 k1 ob nn ys) (hb : Bool) (m : Nat) (hm : m ≤ 100) (hma : m ≤ na) (hmb : m ≤ nn) (i : Nat) (hi : i < m) :
    To Try.prog 53 (c1 (c1 (c2 (c1 doBd)))) (dAone k1 s oa na ca ob nn cb (hb || dotFl (xs.take i) (ys.take i)) (dotS (xs.take i) (ys.take i)) m i) .normal (dAone k1 s oa na ca ob nn cb (hb || dotFl (xs.take (i + 1)) (ys.take (i + 1))) (dotS (xs.take (i + 1)) (ys.take (i + 1))) m ((i : Int) + 1)) := by
  obtain ⟨hlen, hat, hok⟩ := hx
  obtain ⟨hlen2, hat2, -⟩ := hy
  have ix : i < xs.length := by omega
  have iy : i < ys.length := by omega
  have hx := intAt_of (hat i ix)
  have hy := intAt_of (hat2 i iy)
  have b0 := dotS_bd (xs.take i) (ys.take i)
  rw [List.length_take] at b0
  have b1 := satsat xs[i] ys[i]
  have hmi : ((min i xs.length : Nat) : Int) = i := by omega
  rw [hmi] at b0
  have e0 : (xs.take i).length = (ys.take i).length := by simp only [List.length_take]; omega
  have e1 : dotS (xs.take (i + 1)) (ys.take (i + 1)) = dotS (xs.take i) (ys.take i) + satV xs[i] * satV ys[i] := by rw [take_snoc xs i ix, take_snoc ys i iy, dotS_app _ _ _ _ e0]
  have e2 : (hb || dotFl (xs.take (i + 1)) (ys.take (i + 1))) = (((hb || dotFl (xs.take i) (ys.take i)) || satH xs[i]) || satH ys[i]) := by rw [take_snoc xs i ix, take_snoc ys i iy, dotFl_app _ _ _ _ e0]; simp [Bool.or_assoc]
  have e3 : ((i : Int)).toNat * 1 = i := by simp
  have e4 : wr .i64 ((i : Int) + 1) = (i : Int) + 1 := w64_in (by omega) (by omega)
  have hI := isI_sat xs[i]
  have hI2 := isI_sat ys[i]
  obtain ⟨ty, fr, es, l⟩ := k1
  rw [e1, e2]
  generalize dotS (xs.take i) (ys.take i) = D at *
  obtain ⟨⟨bD0, bD1⟩, ⟨bp0, bp1⟩, bs0, bs1⟩ := dot_bds hi hm b0 b1
  obtain ⟨i2a, i2b⟩ := wHi_inI D bD0 bD1
  obtain ⟨l2a, l2b⟩ := wLo_in D
  obtain ⟨i3a, i3b⟩ := wHi_inI (satV xs[i] * satV ys[i]) bp0 bp1
  obtain ⟨l3a, l3b⟩ := wLo_in (satV xs[i] * satV ys[i])
  have j0 : (0 : Int) ≤ (i : Int) := Int.natCast_nonneg i
  have j1 : (i : Int) < (na : Int) := Int.ofNat_lt.2 (Nat.lt_of_lt_of_le hi hma)
  have j2 : (i : Int) < (nn : Int) := Int.ofNat_lt.2 (Nat.lt_of_lt_of_le hi hmb)
  have j3 : (i : Int) < (m : Int) := Int.ofNat_lt.2 hi
  refine To.run (z := Zl) sound18 (slots := [0, 1, 2, 3, 9, 25, 26]) (blks := [0, 1, 3]) (vs := [A0, I s, SLX 1 oa na ca, SLX 1 ob nn cb, P3, I m, I ((i : Int) + 1)])
    (bs := [flag 41 (((hb || dotFl (xs.take i) (ys.take i)) || satH xs[i]) || satH ys[i]), ⟨ty, fr, es, l⟩, wB (D + satV xs[i] * satV ys[i])]) (nbB := 4)
    (fun dead => dot_one_c dead (hb || dotFl (xs.take i) (ys.take i)) s oa na ca ob nn cb ty fr es l (wHi D) (wLo D) m i) rfl (by rw [e4]; rfl) (by rw [e3, hx.1, hy.1]; simp only [wVal_mk]; rfl) ?_ (kst_ok rfl (memOK3' (Nat.le_refl _) rfl (okL_mono noP_below hok) rfl)) (Nat.le_refl _)
  rw [e3, hx.1, hx.2, hy.1, hy.2, hI, hI2]
  simp only [wVal_mk, all_tt, isI_iff, isU_iff, isW_iff, Bool.and_eq_true, decide_eq_true_eq]
  repeat' apply And.intro
  all_goals first | exact ae_nil | exact True.intro | assumption
theorem dEndone (k1 : Blk) (s : Int) (oa na ca ob nn cb : Nat) (hok : okL noP k1.cells = true) (h : Bool) (v : Int) (m : Nat) : To Try.prog 53 (c1 (c1 (c2 (c1 doBd)))) (dAone k1 s oa na ca ob nn cb h v m m) (.exit 0) (dBone k1 s h v) := by
  obtain ⟨ty, fr, es, l⟩ := k1
  refine To.exec (z := Zl) sound18 (slots := [0, 1, 9]) (blks := [0, 1, 3]) (vs := [A0, I s, P3]) (bs := [flag 41 h, ⟨ty, fr, es, l⟩, wB v]) (nbB := 4) (fun dead => dot_one_d dead h s oa na ca ob nn cb ty fr es l (wHi v) (wLo v) m m) ?_ (kst_ok rfl (memOK3' (Nat.le_refl _) rfl (okL_mono noP_below hok) rfl)) (Nat.le_refl _)
  simp
theorem dRdone (k1 : Blk) (s : Int) (oa na ca ob nn cb : Nat) (xs ys : List Int) (hx : SlAt 1 k1 oa na xs) (hy : SlAt 1 k1 ob nn ys) (hb : Bool) (m : Nat) (hm : m ≤ 100) (hma : m ≤ na) (hmb : m ≤ nn) : ∀ (j i : Nat), i + j = m →
    Rd Try.prog 53 (c1 (c1 (c2 (c1 doBd)))) (j + 1) (dAone k1 s oa na ca ob nn cb (hb || dotFl (xs.take i) (ys.take i)) (dotS (xs.take i) (ys.take i)) m i) (.exit 0) (dBone k1 s (hb || dotFl (xs.take m) (ys.take m)) (dotS (xs.take m) (ys.take m)))
  | 0, i, h => by
    have hi : i = m := by omega
    subst hi
    exact Rd.last (by simp) (dEndone k1 s oa na ca ob nn cb hx.2.2 _ _ i)
  | j + 1, i, h => Rd.next (dStepone k1 s oa na ca ob nn cb xs ys hx hy hb m hm hma hmb i (by omega)) (dRdone k1 s oa na ca ob nn cb xs ys hx hy hb m hm hma hmb j (i + 1) (by omega))

theorem dInone (k1 : Blk) (s : Int) (h0 : 0 ≤ s) (h1 : s ≤ 120) (oa na ca ob nn cb : Nat) (xs ys : List Int) (hx : SlAt 1 k1 oa na xs) (hy : SlAt 1 k1 ob nn ys) (hb : Bool) (E : Env) (w : World) (hrel : Rel E (getM [(0, flag 41 hb), (1, k1)]) w) :
    Calls Try.prog 47 ((A0 :: ([I s] ++ [SLX 1 oa na ca, SLX 1 ob nn cb])).map (LV.den E)).toArray w fun e w' => e = .returned ((I (dotV s xs ys)).den E0) ∧ Lcl E [(0, flag 41 hb), (1, k1)] [(0, flag 41 (hb || dotH s xs ys)), (1, k1)] w w' := by
  have hxl : xs.length = na := by have := hx.1; omega
  have hyl : ys.length = nn := by have := hy.1; omega
  have hok := hx.2.2
  have hok2 := hy.2.2
  have hm : min (min na nn) 100 ≤ 100 := by omega
  have hR := dRdone k1 s oa na ca ob nn cb xs ys hx hy hb (min (min na nn) 100) (by omega) (by omega) (by omega) (min (min na nn) 100) 0 (by omega)
  have hmin := dot_min xs ys (min (min na nn) 100) 100 (by omega) (by omega)
  rw [hmin.1, hmin.2] at hR
  have eI : (if (100 : Int) < if (nn : Int) < (na : Int) then (nn : Int) else (na : Int) then 100 else if (nn : Int) < (na : Int) then (nn : Int) else (na : Int)) = ((min (min na nn) 100 : Nat) : Int) := by (repeat' split) <;> omega
  generalize min (min na nn) 100 = m at *
  have b0 := dotS_bd (xs.take 100) (ys.take 100)
  rw [List.length_take] at b0
  have hV : dotV s xs ys = rndS (dotS (xs.take 100) (ys.take 100)) s := rfl
  have hH : (hb || dotH s xs ys) = ((hb || dotFl (xs.take 100) (ys.take 100)) || rndH (dotS (xs.take 100) (ys.take 100)) s) := by unfold dotH; rw [Bool.or_assoc]
  rw [hV, hH]
  generalize dotS (xs.take 100) (ys.take 100) = D at *
  obtain ⟨bD0, bD1⟩ := dot_bdn (k := 0) b0
  have hi2 := wHi_inI D bD0 bD1
  have hl2 := wLo_in D
  have hs1 : decide (s > 120) = false := decide_eq_false (by omega)
  have hs0 : decide (s < 0) = false := decide_eq_false (by omega)
  obtain ⟨ty, fr, es, l⟩ := k1
  refine lcl_of_To (c := bodyF Try.prog 47) (e := .ret) (nb := 3) (B := ⟨[(8, I (rndS D s))], [(0, flag 41 ((hb || dotFl (xs.take 100) (ys.take 100)) || rndH D s)), (1, ⟨ty, fr, es, l⟩)], 4⟩) Try.func47 (by kernel_rfl) (Nat.le_of_ble_eq_true (by kernel_rfl)) (Nat.le_of_ble_eq_true (by kernel_rfl))
    (fun u hu => ?_) (memOK2 (Nat.le_of_ble_eq_true rfl) rfl (okL_mono noP_below hok)) ?_ (.inr rfl) (fun dead => by kernel_rfl) rfl (fun i b hib => ?_) E w hrel
  · simp only [List.cons_append, List.nil_append, List.mem_cons, List.not_mem_nil, or_false] at hu
    rcases hu with rfl | rfl | rfl | rfl <;> rfl
  · refine To.spineR (z := Zl) sound18 (k := 3) (slots := [0, 1, 2, 3, 9]) (blks := [0, 1, 3]) (vs := [A0, I s, SLX 1 oa na ca, SLX 1 ob nn cb, P3]) (bs := [flag 41 hb, ⟨ty, fr, es, l⟩, wB 0]) (nbB := 4) (by kernel_rfl) (fun dead => dot_one_a dead hb s oa na ca ob nn cb ty fr es l) rfl rfl rfl (by rw [hs1, hs0]; simp) (kst_ok rfl (memOK3' (Nat.le_refl _) rfl (okL_mono noP_below hok) rfl)) (Nat.le_succ 3) ?_
    refine To.seq (by kernel_rfl) (To.seq (by kernel_rfl) (To.run (z := Zl) sound18 (slots := [0, 1, 2, 3, 9, 25, 26]) (blks := [0, 1, 3]) (vs := [A0, I s, SLX 1 oa na ca, SLX 1 ob nn cb, P3, I m, I 0]) (bs := [flag 41 hb, ⟨ty, fr, es, l⟩, wB 0]) (nbB := 4) (fun dead => dot_one_b dead hb s oa na ca ob nn cb ty fr es l 0 0) rfl (by simp only [eI]; rfl) rfl ae_nil (kst_ok rfl (memOK3' (Nat.le_refl _) rfl (okL_mono noP_below hok) rfl)) (Nat.le_refl _))
      (To.block (id := 0) (by kernel_rfl) (To.loop (m := m + 1) (by kernel_rfl) ?_) (.inl rfl))) (C := _) (B := dBone ⟨ty, fr, es, l⟩ s (hb || dotFl (xs.take 100) (ys.take 100)) D) ?_
    · simp only [List.take_zero, dotFl, Bool.or_false, dotS] at hR
      exact hR
    · refine To.run (z := Zl) sound18 (slots := [8]) (blks := [0, 1]) (vs := [I (rndS D s)]) (bs := [flag 41 ((hb || dotFl (xs.take 100) (ys.take 100)) || rndH D s), ⟨ty, fr, es, l⟩]) (nbB := 4) (fun dead => dot_one_e dead (hb || dotFl (xs.take 100) (ys.take 100)) s oa na ca ob nn cb ty fr es l (wHi D) (wLo D)) rfl ?_ ?_ ?_ (kst_ok rfl (memOK2 (Nat.le_of_ble_eq_true rfl) rfl (okL_mono noP_below hok))) (Nat.le_refl _)
      · rw [wVal_mk]; rfl
      · rw [wVal_mk]; rfl
      · simp only [all_tt, isI_iff, isU_iff]
        exact ⟨hi2, hl2, ae_nil⟩
  · rcases get2 hib with ⟨rfl, rfl⟩ | ⟨rfl, rfl⟩
    · exact ⟨rfl, by decide, rfl⟩
    · exact ⟨rfl, by decide, okL_mono noP_below hok⟩

theorem sumDot : SumOK Try.prog 47 (acSum 41 1 fdotS) := by
  refine acSum2_ok (own_of sound18 Try.func47 (by kernel_rfl)) (fun avs hb r h => ?_) fun pre xs ys hb v h' cs hF hcc hp hv => ?_
  · unfold fdotS at h
    split at h
    · exact ⟨[_], _, _, rfl⟩
    · cases h
  · have hpre : ∃ s, pre = [I s] := by
      match pre with
      | [] => simp [fdotS] at hF
      | [p] =>
        simp only [List.map_cons, List.map_nil, List.cons_append, List.nil_append] at hF
        unfold fdotS at hF
        split at hF
        · rename_i he
          simp only [List.cons.injEq, AV.pl.injEq] at he
          obtain ⟨e, -⟩ := he
          exact ⟨_, by rw [e]; rfl⟩
        · cases hF
      | p :: q :: r => simp [fdotS] at hF
    obtain ⟨s, rfl⟩ := hpre
    have hF' : some (I (dotV s xs ys), hb || dotH s xs ys, []) = some (v, h', cs) := hF
    cases hF'
    have hargs : ∀ (p q : LV) (nb : Nat), p.ok (below nb) = true → q.ok (below nb) = true → 1 ≤ nb → ∀ u ∈ A0 :: ([I s] ++ [p, q]), u.ok (below nb) = true := by
      intro p q nb hp hq hn u hu
      simp only [List.cons_append, List.nil_append, List.mem_cons, List.not_mem_nil, or_false] at hu
      rcases hu with rfl | rfl | rfl | rfl
      · simp [A0, LV.ok, V1.ok, At.ok, below, nblt]; omega
      · rfl
      · exact hp
      · exact hq
    have hs : s < 0 ∨ s > 120 ∨ (0 ≤ s ∧ s ≤ 120) := by omega
    refine ⟨fun k1 oa na ca k2 ob nn cb hx hy E w hrel => ?_, fun k1 oa na ca ob nn cb hx hy E w hrel => ?_, fun hx k1 ob nn cb hy E w hrel => ?_, fun hy k1 oa na ca hx E w hrel => ?_, fun hx hy E w hrel => ?_⟩
    · have hok := hx.2.2
      have hok2 := hy.2.2
      obtain ⟨ty, fr, es, l⟩ := k1
      obtain ⟨ty2, fr2, es2, l2⟩ := k2
      rcases hs with h | h | ⟨h0, h1⟩
      · have hd := dot_out (.inl h) xs ys hb
        rw [← hd.1, ← hd.2]
        refine lcl3 sound18 (dn_two_neg hb s oa na ca ob nn cb ty fr es l ty2 fr2 es2 l2) (fun i b hib => ?_) (cs_neg h) (memOK3 (Nat.le_refl _) rfl (okL_mono noP_below hok) (okL_mono noP_below hok2)) (hargs _ _ _ rfl rfl (by decide)) rfl E w hrel
        · rcases get3 hib with ⟨rfl, rfl⟩ | ⟨rfl, rfl⟩ | ⟨rfl, rfl⟩
          · exact ⟨.inl ⟨rfl, rfl⟩, by decide, rfl⟩
          · exact ⟨.inr (.inl ⟨rfl, rfl⟩), by decide, okL_mono noP_below hok⟩
          · exact ⟨.inr (.inr ⟨rfl, rfl⟩), by decide, okL_mono noP_below hok2⟩
      · have hd := dot_out (.inr h) xs ys hb
        rw [← hd.1, ← hd.2]
        refine lcl3 sound18 (dn_two_big hb s oa na ca ob nn cb ty fr es l ty2 fr2 es2 l2) (fun i b hib => ?_) (cs_big h) (memOK3 (Nat.le_refl _) rfl (okL_mono noP_below hok) (okL_mono noP_below hok2)) (hargs _ _ _ rfl rfl (by decide)) rfl E w hrel
        · rcases get3 hib with ⟨rfl, rfl⟩ | ⟨rfl, rfl⟩ | ⟨rfl, rfl⟩
          · exact ⟨.inl ⟨rfl, rfl⟩, by decide, rfl⟩
          · exact ⟨.inr (.inl ⟨rfl, rfl⟩), by decide, okL_mono noP_below hok⟩
          · exact ⟨.inr (.inr ⟨rfl, rfl⟩), by decide, okL_mono noP_below hok2⟩
      · exact dIntwo ⟨ty, fr, es, l⟩ ⟨ty2, fr2, es2, l2⟩ s h0 h1 oa na ca ob nn cb xs ys hx hy hb E w hrel
    · have hok := hx.2.2
      obtain ⟨ty, fr, es, l⟩ := k1
      rcases hs with h | h | ⟨h0, h1⟩
      · have hd := dot_out (.inl h) xs ys hb
        rw [← hd.1, ← hd.2]
        refine lcl3 sound18 (dn_one_neg hb s oa na ca ob nn cb ty fr es l 0 (0, 0) 0 []) (fun i b hib => ?_) (cs_neg h) (memOK2 (Nat.le_of_ble_eq_true rfl) rfl (okL_mono noP_below hok)) (hargs _ _ _ rfl rfl (by decide)) rfl E w hrel
        · rcases get2 hib with ⟨rfl, rfl⟩ | ⟨rfl, rfl⟩
          · exact ⟨.inl ⟨rfl, rfl⟩, by decide, rfl⟩
          · exact ⟨.inr (.inl ⟨rfl, rfl⟩), by decide, okL_mono noP_below hok⟩
      · have hd := dot_out (.inr h) xs ys hb
        rw [← hd.1, ← hd.2]
        refine lcl3 sound18 (dn_one_big hb s oa na ca ob nn cb ty fr es l 0 (0, 0) 0 []) (fun i b hib => ?_) (cs_big h) (memOK2 (Nat.le_of_ble_eq_true rfl) rfl (okL_mono noP_below hok)) (hargs _ _ _ rfl rfl (by decide)) rfl E w hrel
        · rcases get2 hib with ⟨rfl, rfl⟩ | ⟨rfl, rfl⟩
          · exact ⟨.inl ⟨rfl, rfl⟩, by decide, rfl⟩
          · exact ⟨.inr (.inl ⟨rfl, rfl⟩), by decide, okL_mono noP_below hok⟩
      · exact dInone ⟨ty, fr, es, l⟩ s h0 h1 oa na ca ob nn cb xs ys hx hy hb E w hrel
    · have hok := hy.2.2
      obtain ⟨ty, fr, es, l⟩ := k1
      rcases hs with h | h | ⟨h0, h1⟩
      · have hd := dot_out (.inl h) xs ys hb
        rw [← hd.1, ← hd.2]
        refine lcl3 sound18 (dn_right_neg hb s 0 0 0 ob nn cb ty fr es l 0 (0, 0) 0 []) (fun i b hib => ?_) (cs_neg h) (memOK2 (Nat.le_of_ble_eq_true rfl) rfl (okL_mono noP_below hok)) (hargs _ _ _ rfl rfl (by decide)) rfl E w hrel
        · rcases get2 hib with ⟨rfl, rfl⟩ | ⟨rfl, rfl⟩
          · exact ⟨.inl ⟨rfl, rfl⟩, by decide, rfl⟩
          · exact ⟨.inr (.inl ⟨rfl, rfl⟩), by decide, okL_mono noP_below hok⟩
      · have hd := dot_out (.inr h) xs ys hb
        rw [← hd.1, ← hd.2]
        refine lcl3 sound18 (dn_right_big hb s 0 0 0 ob nn cb ty fr es l 0 (0, 0) 0 []) (fun i b hib => ?_) (cs_big h) (memOK2 (Nat.le_of_ble_eq_true rfl) rfl (okL_mono noP_below hok)) (hargs _ _ _ rfl rfl (by decide)) rfl E w hrel
        · rcases get2 hib with ⟨rfl, rfl⟩ | ⟨rfl, rfl⟩
          · exact ⟨.inl ⟨rfl, rfl⟩, by decide, rfl⟩
          · exact ⟨.inr (.inl ⟨rfl, rfl⟩), by decide, okL_mono noP_below hok⟩
      · have hd := dot_nil (s := s) (xs := xs) (ys := ys) (.inl hx) hb
        rw [← hd.1, ← hd.2]
        refine lcl3 sound18 (dn_right_in hb s 0 0 0 ob nn cb ty fr es l 0 (0, 0) 0 []) (fun i b hib => ?_) (cs_in (decide_eq_false (by (repeat' split) <;> omega)) h0 h1) (memOK2 (Nat.le_of_ble_eq_true rfl) rfl (okL_mono noP_below hok)) (hargs _ _ _ rfl rfl (by decide)) rfl E w hrel
        · rcases get2 hib with ⟨rfl, rfl⟩ | ⟨rfl, rfl⟩
          · exact ⟨.inl ⟨rfl, rfl⟩, by decide, rfl⟩
          · exact ⟨.inr (.inl ⟨rfl, rfl⟩), by decide, okL_mono noP_below hok⟩
    · have hok := hx.2.2
      obtain ⟨ty, fr, es, l⟩ := k1
      rcases hs with h | h | ⟨h0, h1⟩
      · have hd := dot_out (.inl h) xs ys hb
        rw [← hd.1, ← hd.2]
        refine lcl3 sound18 (dn_left_neg hb s oa na ca 0 0 0 ty fr es l 0 (0, 0) 0 []) (fun i b hib => ?_) (cs_neg h) (memOK2 (Nat.le_of_ble_eq_true rfl) rfl (okL_mono noP_below hok)) (hargs _ _ _ rfl rfl (by decide)) rfl E w hrel
        · rcases get2 hib with ⟨rfl, rfl⟩ | ⟨rfl, rfl⟩
          · exact ⟨.inl ⟨rfl, rfl⟩, by decide, rfl⟩
          · exact ⟨.inr (.inl ⟨rfl, rfl⟩), by decide, okL_mono noP_below hok⟩
      · have hd := dot_out (.inr h) xs ys hb
        rw [← hd.1, ← hd.2]
        refine lcl3 sound18 (dn_left_big hb s oa na ca 0 0 0 ty fr es l 0 (0, 0) 0 []) (fun i b hib => ?_) (cs_big h) (memOK2 (Nat.le_of_ble_eq_true rfl) rfl (okL_mono noP_below hok)) (hargs _ _ _ rfl rfl (by decide)) rfl E w hrel
        · rcases get2 hib with ⟨rfl, rfl⟩ | ⟨rfl, rfl⟩
          · exact ⟨.inl ⟨rfl, rfl⟩, by decide, rfl⟩
          · exact ⟨.inr (.inl ⟨rfl, rfl⟩), by decide, okL_mono noP_below hok⟩
      · have hd := dot_nil (s := s) (xs := xs) (ys := ys) (.inr hy) hb
        rw [← hd.1, ← hd.2]
        refine lcl3 sound18 (dn_left_in hb s oa na ca 0 0 0 ty fr es l 0 (0, 0) 0 []) (fun i b hib => ?_) (cs_in (decide_eq_false (by (repeat' split) <;> omega)) h0 h1) (memOK2 (Nat.le_of_ble_eq_true rfl) rfl (okL_mono noP_below hok)) (hargs _ _ _ rfl rfl (by decide)) rfl E w hrel
        · rcases get2 hib with ⟨rfl, rfl⟩ | ⟨rfl, rfl⟩
          · exact ⟨.inl ⟨rfl, rfl⟩, by decide, rfl⟩
          · exact ⟨.inr (.inl ⟨rfl, rfl⟩), by decide, okL_mono noP_below hok⟩
    · have hok := True.intro
      have l : List At := []
      rcases hs with h | h | ⟨h0, h1⟩
      · have hd := dot_out (.inl h) xs ys hb
        rw [← hd.1, ← hd.2]
        refine lcl3 sound18 (dn_none_neg hb s 0 0 0 0 0 0 0 (0, 0) 0 [] 0 (0, 0) 0 []) (fun i b hib => ?_) (cs_neg h) (memOK1 (Nat.le_of_ble_eq_true rfl) rfl) (hargs _ _ _ rfl rfl (by decide)) rfl E w hrel
        · obtain ⟨rfl, rfl⟩ := get1 hib
          exact ⟨.inl ⟨rfl, rfl⟩, by decide, rfl⟩
      · have hd := dot_out (.inr h) xs ys hb
        rw [← hd.1, ← hd.2]
        refine lcl3 sound18 (dn_none_big hb s 0 0 0 0 0 0 0 (0, 0) 0 [] 0 (0, 0) 0 []) (fun i b hib => ?_) (cs_big h) (memOK1 (Nat.le_of_ble_eq_true rfl) rfl) (hargs _ _ _ rfl rfl (by decide)) rfl E w hrel
        · obtain ⟨rfl, rfl⟩ := get1 hib
          exact ⟨.inl ⟨rfl, rfl⟩, by decide, rfl⟩
      · have hd := dot_nil (s := s) (xs := xs) (ys := ys) (.inl hx) hb
        rw [← hd.1, ← hd.2]
        refine lcl3 sound18 (dn_none_in hb s 0 0 0 0 0 0 0 (0, 0) 0 [] 0 (0, 0) 0 []) (fun i b hib => ?_) (cs_in (decide_eq_false (by (repeat' split) <;> omega)) h0 h1) (memOK1 (Nat.le_of_ble_eq_true rfl) rfl) (hargs _ _ _ rfl rfl (by decide)) rfl E w hrel
        · obtain ⟨rfl, rfl⟩ := get1 hib
          exact ⟨.inl ⟨rfl, rfl⟩, by decide, rfl⟩

def S21 : FuncId → Option SumK := more S18 47 (acSum 41 1 fdotS)
theorem sound21 : Sound Try.prog S21 := sound18.more sumDot
end Go.Proofs.Ytdkmiliehlhmbaa

/- The local evaluator: summaries of closures over a flag's pointer, and over numbers. -/
namespace Go.Lr
open Go.RowKit

section
variable {P : Program} {S : FuncId → Option SumK} {z : Md}

/-- Plain values, then the pointers that a closure holds. -/
def capsOf : List LV → Option (List LV × List Nat)
  | [] => some ([], [])
  | .v (.one (.ptr b 0)) :: l => match capsOf l with
    | some ([], r) => some ([], b :: r)
    | _ => none
  | x :: l => match x.ok noP with
    | true => match capsOf l with
      | some (p, r) => some (x :: p, r)
      | none => none
    | false => none
def ptrsL : List Nat → List LV
  | [] => []
  | b :: l => .v (.one (.ptr b 0)) :: ptrsL l

theorem capsOf_spec : ∀ {args pl : List LV} {r : List Nat}, capsOf args = some (pl, r) → args = pl ++ ptrsL r ∧ plainVs pl = true := by
  intro args
  induction args with
  | nil => intro pl r h; simp only [capsOf] at h; cases h; exact ⟨rfl, rfl⟩
  | cons x l ih =>
    intro pl r h
    unfold capsOf at h
    split at h
    · rename_i e; cases e
    · rename_i b l' e
      cases e
      split at h
      · rename_i r' hr
        cases h
        obtain ⟨i1, -⟩ := ih hr
        exact ⟨by rw [i1]; rfl, rfl⟩
      · cases h
    · rename_i x' l' _ e
      cases e
      split at h
      · rename_i hx
        split at h
        · rename_i p r' hr
          cases h
          obtain ⟨i1, i2⟩ := ih hr
          exact ⟨by rw [i1]; rfl, by simp only [plainVs, hx, i2]⟩
        · cases h
      · cases h

/-- The flag's pointer's cell, and what it points to. -/
def isCell (k : Blk) (c : Nat) : Bool :=
  match k.cells with
  | [.ptr b 0] => Nat.beq b c
  | _ => false

theorem isCell_spec {k : Blk} {c : Nat} (h : isCell k c = true) : k.cells = [.ptr c 0] := by
  unfold isCell at h
  split at h
  · rename_i b hb
    rw [nbeq] at h
    have : b = c := by simpa using h
    subst this; exact hb
  · cases h

/-- A closure over a flag's pointer, and maybe over numbers: the plain arguments, the cells of the numbers, the flag. -/
def clSum (ty : TypeId) (F : List LV → List (List At) → Bool → Option (LV × Bool × List (Bool × Bool))) : List LV → List (Nat × LV) → Option Tch := fun args pk =>
  match capsOf args, pk with
  | some (pl, cc :: rest), [(_, .v (.one (.ptr acc 0)))] => match memB (cc :: rest) acc, memB rest cc with
    | false, false => match rest with
      | [] => some ⟨[cc], [acc], fun rdB wB _ => match rdB, wB with
        | [kc], [⟨t, (0, 0), 0, [.bool h]⟩] => match Nat.beq t ty, isCell kc acc with
          | true, true => match F pl [] h with
            | some (v, h', cs) => match v.ok noP with
              | true => some ⟨v, [flag ty h'], [], cs⟩
              | false => none
            | none => none
          | _, _ => none
        | _, _ => none⟩
      | [d] => some ⟨[cc, d], [acc], fun rdB wB _ => match rdB, wB with
        | [kc, kd], [⟨t, (0, 0), 0, [.bool h]⟩] => match Nat.beq t ty, isCell kc acc, okL noP kd.cells with
          | true, true, true => match F pl [kd.cells] h with
            | some (v, h', cs) => match v.ok noP with
              | true => some ⟨v, [flag ty h'], [], cs⟩
              | false => none
            | none => none
          | _, _, _ => none
        | _, _ => none⟩
      | _ => none
    | _, _ => none
  | _, _ => none

/-- From a local call to the summary's: the blocks' local numbers; blocks may hold pointers. -/
theorem call_upP {f : FuncId} (ho : Own P f) {args args' : List LV} {m m' : Mem} {ren : Nat → Nat} {g : Nat → Option Blk} {nb c : Nat} {ty : TypeId} {h h' : Bool} {v : LV} {E E1 : Env} {w : World}
    (hE : ∀ i, E1 i = E (ren i)) (hrel : Rel E g w) (hc : g c = some (flag ty h)) (h0 : getM m' 0 = some (flag ty h')) (hren0 : ren 0 = c)
    (hm : ∀ i b, getM m i = some b → ∃ b', g (ren i) = some b' ∧ b'.ty = b.ty ∧ b'.fr = b.fr ∧ b'.es = b.es ∧ b'.cells.map (At.den E) = b.cells.map (At.den E1))
    (hm' : ∀ i b, i ≠ 0 → getM m i = some b → getM m' i = some b)
    (hargs : args.map (LV.den E) = args'.map (LV.den E1)) (hv : v.ok noP = true)
    (hcall : Calls P f (args'.map (LV.den E1)).toArray w fun e w' => e = .returned (v.den E0) ∧ Lcl E1 m m' w w') :
    CallOK P f (args.map (LV.den E)).toArray w fun u w' => ∃ E', u = v.den E' ∧ Post w E g nb ⟨v, [(c, some (flag ty h'))], [], [], []⟩ E' w' := by
  obtain ⟨fn, f1, f2, f3⟩ := ho
  rw [hargs]
  refine .inl ⟨fn, f1, f2, f3, hcall.mono ?_⟩
  rintro e w' ⟨rfl, hl⟩
  refine ⟨_, rfl, E, (den_noP hv).symm, post_lcl hrel hc hl.os hl.tape hl.output hl.size ?_ (fun i b hi hib => ?_) fun b hb hne => hl.frame b hb fun i hi => ?_⟩
  · exact blkAt_ren (E := E1) (i := 0) rfl (by rw [hE, hren0]) (hl.blk 0 _ h0)
  · by_cases hex : ∃ j, (getM m j).isSome ∧ ren j = i
    · obtain ⟨j, hj, rfl⟩ := hex
      obtain ⟨b', hb'⟩ := Option.isSome_iff_exists.1 hj
      obtain ⟨b2, q1, q2, q3, q4, q5⟩ := hm j b' hb'
      have : b2 = b := by rw [hib] at q1; cases q1; rfl
      subst this
      have hj0 : j ≠ 0 := fun e => hi (by rw [e, hren0])
      obtain ⟨r, g1, g2, g3⟩ := hl.blk j _ (hm' j _ hj0 hb')
      have hlen : b2.cells.length = b'.cells.length := by
        have := congrArg List.length q5
        simpa using this
      exact ⟨r, by rw [← hE j, g1, q2, q3, q5], fun he => g2 (by rw [← q4]; exact he), fun he => by rw [hlen, q4, ← hE j]; exact g3 (by rw [← q4]; exact he)⟩
    · obtain ⟨r, g1, g2, g3⟩ := hrel.blk i b hib
      refine ⟨r, ?_, g2, g3⟩
      rw [hl.frame _ (Array.getElem?_eq_some_iff.1 g1).1 fun j hj e => hex ⟨j, hj, ?_⟩]
      · exact g1
      · obtain ⟨b', hb'⟩ := Option.isSome_iff_exists.1 hj
        obtain ⟨b2, q1, -⟩ := hm j b' hb'
        rw [hE] at e
        exact hrel.inj _ _ (by rw [q1]; rfl) (by rw [hib]; rfl) e
  · obtain ⟨b', hb'⟩ := Option.isSome_iff_exists.1 hi
    obtain ⟨b2, q1, -⟩ := hm i b' hb'
    rw [hE]
    exact hne _ (by rw [q1]; rfl)

theorem relP {E E1 : Env} {g : Nat → Option Blk} {w : World} {ren : Nat → Nat} {m : Mem} (hrel : Rel E g w) (hE : ∀ i, E1 i = E (ren i))
    (hm : ∀ i b, getM m i = some b → ∃ b', g (ren i) = some b' ∧ b'.ty = b.ty ∧ b'.fr = b.fr ∧ b'.es = b.es ∧ b'.cells.map (At.den E) = b.cells.map (At.den E1))
    (hi : ∀ i j, (getM m i).isSome → (getM m j).isSome → ren i = ren j → i = j) : Rel E1 (getM m) w := by
  refine ⟨fun i b hib => ?_, fun i j h1 h2 he => ?_⟩
  · obtain ⟨b', q1, q2, q3, q4, q5⟩ := hm i b hib
    obtain ⟨r, g1, g2, g3⟩ := hrel.blk _ _ q1
    have hlen : b'.cells.length = b.cells.length := by
      have := congrArg List.length q5
      simpa using this
    exact ⟨r, by rw [hE, g1, q2, q3, q5], fun hz => g2 (by rw [q4]; exact hz), fun hz => by rw [← hlen, ← q4, hE]; exact g3 (by rw [q4]; exact hz)⟩
  · obtain ⟨b1, e1⟩ := Option.isSome_iff_exists.1 h1
    obtain ⟨b2, e2⟩ := Option.isSome_iff_exists.1 h2
    obtain ⟨c1, q1, -⟩ := hm i b1 e1
    obtain ⟨c2, q2, -⟩ := hm j b2 e2
    rw [hE, hE] at he
    exact hi i j h1 h2 (hrel.inj _ _ (by rw [q1]; rfl) (by rw [q2]; rfl) he)

def PT (b : Nat) : LV := .v (.one (.ptr b 0))
def pcell (ty : TypeId) (fr : Nat × Nat) (es : Nat) : Blk := ⟨ty, fr, es, [.ptr 0 0]⟩

theorem clSum_ok {f : FuncId} (ho : Own P f) {ty : TypeId} {F : List LV → List (List At) → Bool → Option (LV × Bool × List (Bool × Bool))}
    (h1 : ∀ (pl : List LV) (hb : Bool) (v : LV) (h' : Bool) (cs : List (Bool × Bool)), F pl [] hb = some (v, h', cs) → (∀ c ∈ cs, c.1 = c.2) → plainVs pl = true → v.ok noP = true → ∀ (tc : TypeId) (fc : Nat × Nat) (ec : Nat) (E : Env) (w : World),
      Rel E (getM [(0, flag ty hb), (1, pcell tc fc ec)]) w → Calls P f ((pl ++ [PT 1]).map (LV.den E)).toArray w fun e w' => e = .returned (v.den E0) ∧ Lcl E [(0, flag ty hb), (1, pcell tc fc ec)] [(0, flag ty h'), (1, pcell tc fc ec)] w w')
    (h2 : ∀ (pl : List LV) (kd : Blk) (hb : Bool) (v : LV) (h' : Bool) (cs : List (Bool × Bool)), F pl [kd.cells] hb = some (v, h', cs) → (∀ c ∈ cs, c.1 = c.2) → plainVs pl = true → v.ok noP = true → okL noP kd.cells = true → ∀ (tc : TypeId) (fc : Nat × Nat) (ec : Nat) (E : Env) (w : World),
      Rel E (getM [(0, flag ty hb), (1, pcell tc fc ec), (2, kd)]) w → Calls P f ((pl ++ [PT 1, PT 2]).map (LV.den E)).toArray w fun e w' => e = .returned (v.den E0) ∧ Lcl E [(0, flag ty hb), (1, pcell tc fc ec), (2, kd)] [(0, flag ty h'), (1, pcell tc fc ec), (2, kd)] w w') :
    PeekOK P f (clSum ty F) := by
  intro args t g nb p rdB wrB ans ws E w hs hr hw _ hgo hz hc hrel hg hargs hn
  unfold clSum at hs
  split at hs
  · rename_i pl cc rest b0 acc hcap hpk
    obtain ⟨rfl, hpl⟩ := capsOf_spec hcap
    have hpl' := plainVs_iff.1 hpl
    split at hs
    · rename_i hm1 hm2
      have na : acc ∉ cc :: rest := memB_false hm1
      have nc : cc ∉ rest := memB_false hm2
      split at hs
      · cases hs
        simp only at hgo hw hr
        split at hgo
        · rename_i kc t' hb
          split at hgo
          · rename_i hty hcell
            rw [nbeq] at hty
            have hty' : t' = ty := by simpa using hty
            subst hty'
            have hkc := isCell_spec hcell
            split at hgo
            · rename_i v h' cs hF
              split at hgo
              · rename_i hv
                cases hgo
                obtain ⟨ka, r', hka, hr', hrr⟩ := liveAll_cons hw
                cases liveAll_nil hr'
                cases hrr
                obtain ⟨kc', r2, hkc', hr2, hrr2⟩ := liveAll_cons hr
                cases liveAll_nil hr2
                cases hrr2
                simp only [zipW] at hz
                cases hz
                have hf0 : (⟨t', (0, 0), 0, [.bool hb]⟩ : Blk) = flag t' hb := rfl
                rw [hf0] at hka
                generalize hE1 : (fun i => E (ren2 acc cc i)) = E1
                have hE : ∀ i, E1 i = E (ren2 acc cc i) := fun i => by rw [← hE1]
                have hm : ∀ i b, getM [(0, flag t' hb), (1, pcell kc.ty kc.fr kc.es)] i = some b → ∃ b', g (ren2 acc cc i) = some b' ∧ b'.ty = b.ty ∧ b'.fr = b.fr ∧ b'.es = b.es ∧ b'.cells.map (At.den E) = b.cells.map (At.den E1) := by
                  intro i b hib
                  rcases get2 hib with ⟨rfl, rfl⟩ | ⟨rfl, rfl⟩
                  · exact ⟨_, hka, rfl, rfl, rfl, rfl⟩
                  · refine ⟨_, hkc', rfl, rfl, rfl, ?_⟩
                    rw [hkc]
                    simp only [pcell, List.map_cons, List.map_nil, At.den, hE, ren2]
                have hcl := h1 pl hb v h' cs hF hc hpl hv kc.ty kc.fr kc.es E1 w (relP hrel hE hm fun i j hi hj he => by
                  obtain ⟨bi, hbi⟩ := Option.isSome_iff_exists.1 hi
                  obtain ⟨bj, hbj⟩ := Option.isSome_iff_exists.1 hj
                  have hne : acc ≠ cc := fun e => na (by rw [e]; simp)
                  rcases get2 hbi with ⟨rfl, -⟩ | ⟨rfl, -⟩ <;> rcases get2 hbj with ⟨rfl, -⟩ | ⟨rfl, -⟩
                  · rfl
                  · exact absurd he hne
                  · exact absurd he.symm hne
                  · rfl)
                refine call_upP ho hE hrel hka rfl rfl hm (fun i q h0 hq => ?_) ?_ hv hcl
                · rw [getM_cons, if_neg h0] at hq ⊢; exact hq
                · simp only [ptrsL, List.map_append, List.map_cons, List.map_nil]
                  rw [denL_noP hpl', denL_noP (E := E1) hpl']
                  simp only [PT, LV.den, V1.den, At.den, hE, ren2]
              · cases hgo
            · cases hgo
          · cases hgo
        · cases hgo
      · rename_i d
        cases hs
        simp only at hgo hw hr
        split at hgo
        · rename_i kc kd t' hb
          split at hgo
          · rename_i hty hcell hkd
            rw [nbeq] at hty
            have hty' : t' = ty := by simpa using hty
            subst hty'
            have hkc := isCell_spec hcell
            split at hgo
            · rename_i v h' cs hF
              split at hgo
              · rename_i hv
                cases hgo
                obtain ⟨ka, r', hka, hr', hrr⟩ := liveAll_cons hw
                cases liveAll_nil hr'
                cases hrr
                obtain ⟨kc', r2, hkc', hr2, hrr2⟩ := liveAll_cons hr
                cases hrr2
                obtain ⟨kd', r3, hkd', hr3, hrr3⟩ := liveAll_cons hr2
                cases liveAll_nil hr3
                cases hrr3
                simp only [zipW] at hz
                cases hz
                have hf0 : (⟨t', (0, 0), 0, [.bool hb]⟩ : Blk) = flag t' hb := rfl
                rw [hf0] at hka
                generalize hE1 : (fun i => E (ren3 acc cc d i)) = E1
                have hE : ∀ i, E1 i = E (ren3 acc cc d i) := fun i => by rw [← hE1]
                have hm : ∀ i b, getM [(0, flag t' hb), (1, pcell kc.ty kc.fr kc.es), (2, kd)] i = some b → ∃ b', g (ren3 acc cc d i) = some b' ∧ b'.ty = b.ty ∧ b'.fr = b.fr ∧ b'.es = b.es ∧ b'.cells.map (At.den E) = b.cells.map (At.den E1) := by
                  intro i b hib
                  rcases get3 hib with ⟨rfl, rfl⟩ | ⟨rfl, rfl⟩ | ⟨rfl, rfl⟩
                  · exact ⟨_, hka, rfl, rfl, rfl, rfl⟩
                  · refine ⟨_, hkc', rfl, rfl, rfl, ?_⟩
                    rw [hkc]
                    simp only [pcell, List.map_cons, List.map_nil, At.den, hE, ren3]
                  · exact ⟨_, hkd', rfl, rfl, rfl, by rw [denA_noP hkd, denA_noP (E := E1) hkd]⟩
                have hcl := h2 pl kd hb v h' cs hF hc hpl hv hkd kc.ty kc.fr kc.es E1 w (relP hrel hE hm fun i j hi hj he => by
                  obtain ⟨bi, hbi⟩ := Option.isSome_iff_exists.1 hi
                  obtain ⟨bj, hbj⟩ := Option.isSome_iff_exists.1 hj
                  have n1 : acc ≠ cc := fun e => na (by rw [e]; simp)
                  have n2 : acc ≠ d := fun e => na (by rw [e]; simp)
                  have n3 : cc ≠ d := fun e => nc (by rw [e]; simp)
                  rcases get3 hbi with ⟨rfl, -⟩ | ⟨rfl, -⟩ | ⟨rfl, -⟩ <;> rcases get3 hbj with ⟨rfl, -⟩ | ⟨rfl, -⟩ | ⟨rfl, -⟩
                  · rfl
                  · exact absurd he n1
                  · exact absurd he n2
                  · exact absurd he.symm n1
                  · rfl
                  · exact absurd he n3
                  · exact absurd he.symm n2
                  · exact absurd he.symm n3
                  · rfl)
                refine call_upP ho hE hrel hka rfl rfl hm (fun i q h0 hq => ?_) ?_ hv hcl
                · rw [getM_cons, if_neg h0] at hq ⊢; exact hq
                · simp only [ptrsL, List.map_append, List.map_cons, List.map_nil]
                  rw [denL_noP hpl', denL_noP (E := E1) hpl']
                  simp only [PT, LV.den, V1.den, At.den, hE, ren3]
              · cases hgo
            · cases hgo
          · cases hgo
        · cases hgo
      · cases hs
    · cases hs
  · cases hs

end
end Go.Lr

/- The closures of quat and rot: their runs, their summaries. -/
namespace Go.Proofs.Ytdkmiliehlhmbaa
open Go.Lr
set_option linter.unusedVariables false
set_option linter.unusedSimpArgs false

def C4 (a0 a1 a2 a3 : Int) : List At := [.int .i64 a0, .int .i64 a1, .int .i64 a2, .int .i64 a3]
/-- A closure over the flag's pointer and over four numbers, handed four numbers: a sum of products. -/
theorem cl4_ok {f : FuncId} (ho : Own Try.prog f) {ty : TypeId} {V : Int → Int → Int → Int → Int → Int → Int → Int → Int} {H : Int → Int → Int → Int → Int → Int → Int → Int → Bool} {S : FuncId → Option SumK} (hs : Sound Try.prog S) {n : Nat}
    {F : List LV → List (List At) → Bool → Option (LV × Bool × List (Bool × Bool))}
    (hF : ∀ pl cl hb r, F pl cl hb = some r → ∃ w x y z a0 a1 a2 a3, pl = [I w, I x, I y, I z] ∧ cl = [C4 a0 a1 a2 a3] ∧ r = (I (V w x y z a0 a1 a2 a3), hb || H w x y z a0 a1 a2 a3, []))
    (hr : ∀ w x y z a0 a1 a2 a3 hb tc fc ec td fd ed, (runF Try.prog S Zl n f [I w, I x, I y, I z, PT 1, PT 2] [(0, flag ty hb), (1, pcell tc fc ec), (2, ⟨td, fd, ed, C4 a0 a1 a2 a3⟩)] 3 []).map (fun r => (r.1, getM r.2.1 0, getM r.2.1 1, getM r.2.1 2, r.2.2.2)) =
      some (I (V w x y z a0 a1 a2 a3), some (flag ty (hb || H w x y z a0 a1 a2 a3)), some (pcell tc fc ec), some ⟨td, fd, ed, C4 a0 a1 a2 a3⟩, [])) : PeekOK Try.prog f (clSum ty F) := by
  refine clSum_ok ho (fun pl hb v h' cs hf _ _ _ => ?_) fun pl kd hb v h' cs hf hc _ _ hok tc fc ec E w hrel => ?_
  · obtain ⟨w, x, y, z, a0, a1, a2, a3, -, h, -⟩ := hF _ _ _ _ hf
    cases h
  · obtain ⟨w', x, y, z, a0, a1, a2, a3, rfl, h, h'⟩ := hF _ _ _ _ hf
    cases h'
    obtain ⟨td, fd, ed, l⟩ := kd
    simp only [List.cons.injEq, and_true] at h
    subst h
    refine lcl3 hs (hr w' x y z a0 a1 a2 a3 hb tc fc ec td fd ed) (fun i b hib => ?_) ae_nil rfl (fun u hu => ?_) rfl E w hrel
    · rcases get3 hib with ⟨rfl, rfl⟩ | ⟨rfl, rfl⟩ | ⟨rfl, rfl⟩
      · exact ⟨.inl ⟨rfl, rfl⟩, by decide, rfl⟩
      · exact ⟨.inr (.inl ⟨rfl, rfl⟩), by decide, rfl⟩
      · exact ⟨.inr (.inr ⟨rfl, rfl⟩), by decide, rfl⟩
    · simp only [List.cons_append, List.nil_append, List.mem_cons, List.not_mem_nil, or_false] at hu
      rcases hu with rfl | rfl | rfl | rfl | rfl | rfl <;> rfl

/-- A closure over the flag's pointer alone. -/
theorem cl0_ok {f : FuncId} (ho : Own Try.prog f) {ty : TypeId} {V : Int → Int → Int → Int → Int} {H : Int → Int → Int → Int → Bool} {S : FuncId → Option SumK} (hs : Sound Try.prog S) {n : Nat}
    {F : List LV → List (List At) → Bool → Option (LV × Bool × List (Bool × Bool))}
    (hF : ∀ pl cl hb r, F pl cl hb = some r → ∃ w x y z, pl = [I w, I x, I y, I z] ∧ cl = [] ∧ r = (I (V w x y z), hb || H w x y z, []))
    (hr : ∀ w x y z hb tc fc ec, (runF Try.prog S Zl n f [I w, I x, I y, I z, PT 1] [(0, flag ty hb), (1, pcell tc fc ec)] 2 []).map (fun r => (r.1, getM r.2.1 0, getM r.2.1 1, (none : Option Blk), r.2.2.2)) =
      some (I (V w x y z), some (flag ty (hb || H w x y z)), some (pcell tc fc ec), none, [])) : PeekOK Try.prog f (clSum ty F) := by
  refine clSum_ok ho (fun pl hb v h' cs hf hc _ _ tc fc ec E w hrel => ?_) fun pl kd hb v h' cs hf _ _ _ _ => ?_
  · obtain ⟨w', x, y, z, rfl, -, h'⟩ := hF _ _ _ _ hf
    cases h'
    have hq := hr w' x y z hb tc fc ec
    cases hrun : runF Try.prog S Zl n f [I w', I x, I y, I z, PT 1] [(0, flag ty hb), (1, pcell tc fc ec)] 2 [] with
    | none => rw [hrun] at hq; cases hq
    | some q =>
      obtain ⟨v', m2, nb', cs'⟩ := q
      rw [hrun] at hq
      simp only [Option.map_some, Option.some.injEq, Prod.mk.injEq, and_true, true_and] at hq
      obtain ⟨rfl, e0, e1, rfl⟩ := hq
      refine lcl_of_run hs hrun (fun i b hib => ?_) ae_nil rfl (fun u hu => ?_) rfl E w hrel
      · rcases get2 hib with ⟨rfl, rfl⟩ | ⟨rfl, rfl⟩
        · exact ⟨e0, by decide, rfl⟩
        · exact ⟨e1, by decide, rfl⟩
      · simp only [List.cons_append, List.nil_append, List.mem_cons, List.not_mem_nil, or_false] at hu
        rcases hu with rfl | rfl | rfl | rfl | rfl <;> rfl
  · obtain ⟨w, x, y, z, -, h, -⟩ := hF _ _ _ _ hf
    cases h

def s1V (w x y z a0 a1 a2 a3 : Int) : Int := dotV 30 [a0, a1, a2, a3] [wr .i64 (w * a0), wr .i64 (x * a1), wr .i64 (y * a2), wr .i64 (z * a3)]
def s1H (w x y z a0 a1 a2 a3 : Int) : Bool := dotH 30 [a0, a1, a2, a3] [wr .i64 (w * a0), wr .i64 (x * a1), wr .i64 (y * a2), wr .i64 (z * a3)]
def s1F : List LV → List (List At) → Bool → Option (LV × Bool × List (Bool × Bool))
  | [.v (.one (.int .i64 w)), .v (.one (.int .i64 x)), .v (.one (.int .i64 y)), .v (.one (.int .i64 z))], [[.int .i64 a0, .int .i64 a1, .int .i64 a2, .int .i64 a3]], hb => some (I (s1V w x y z a0 a1 a2 a3), hb || s1H w x y z a0 a1 a2 a3, [])
  | _, _, _ => none
def t1V (a b d e : Int) : Int := dotV 30 [a, a, d, d] [b, b, e, e]
def t1H (a b d e : Int) : Bool := dotH 30 [a, a, d, d] [b, b, e, e]
def t1F : List LV → List (List At) → Bool → Option (LV × Bool × List (Bool × Bool))
  | [.v (.one (.int .i64 a)), .v (.one (.int .i64 b)), .v (.one (.int .i64 d)), .v (.one (.int .i64 e))], [], hb => some (I (t1V a b d e), hb || t1H a b d e, [])
  | _, _, _ => none

theorem sumS1 : PeekOK Try.prog 46 (clSum 41 s1F) := by
  refine cl4_ok (n := 2000) (own_of sound21 Try.func46 (by kernel_rfl)) sound21 (V := s1V) (H := s1H) (fun pl cl hb r h => ?_) fun w x y z a0 a1 a2 a3 hb tc fc ec td fd ed => by kernel_rfl
  unfold s1F at h
  split at h
  · cases h; exact ⟨_, _, _, _, _, _, _, _, rfl, rfl, rfl⟩
  · cases h
theorem sumT1 : PeekOK Try.prog 48 (clSum 41 t1F) := by
  refine cl0_ok (n := 2000) (own_of sound21 Try.func48 (by kernel_rfl)) sound21 (V := t1V) (H := t1H) (fun pl cl hb r h => ?_) fun a b d e hb tc fc ec => by kernel_rfl
  unfold t1F at h
  split at h
  · cases h; exact ⟨_, _, _, _, rfl, rfl, rfl⟩
  · cases h
def S21q : FuncId → Option SumK := S21
theorem sound21q : Sound Try.prog S21q := sound21
def S22 : FuncId → Option SumK := moreP (moreP S21q 46 (clSum 41 s1F)) 48 (clSum 41 t1F)
theorem sound22 : Sound Try.prog S22 := (sound21q.moreP sumS1).moreP sumT1
end Go.Proofs.Ytdkmiliehlhmbaa

/- qsat, rof, qone: runs and summaries (printed). -/
namespace Go.Proofs.Ytdkmiliehlhmbaa
open Go.Lr
set_option linter.unusedVariables false
set_option linter.unusedSimpArgs false

theorem qsatR1 (a0 a1 a2 a3 : Int) (hb : Bool) : (runF Try.prog S22 Zl 2000 81 [A0, .v (.agg [.int .i64 a0, .int .i64 a1, .int .i64 a2, .int .i64 a3])] [(0, flag 41 hb)] 1 [none, none, none, none, none]).map acc3 = some (LV.v (V1.agg [At.int IntKind.i64 (satV a0), At.int IntKind.i64 (satV a1), At.int IntKind.i64 (satV a2), At.int IntKind.i64 (satV a3)]), some { ty := 41, fr := (0, 0), es := 0, cells := [At.bool (hb || satH a0 || satH a1 || satH a2 || satH a3)] }, []) := by kernel_rfl
def qsatT (a0 a1 a2 a3 : Int) (hb : Bool) : Option (LV × Bool × List (Bool × Bool)) := some (LV.v (V1.agg [At.int IntKind.i64 (satV a0), At.int IntKind.i64 (satV a1), At.int IntKind.i64 (satV a2), At.int IntKind.i64 (satV a3)]), (hb || satH a0 || satH a1 || satH a2 || satH a3), [])
def qsatF : List LV → Bool → Option (LV × Bool × List (Bool × Bool))
  | [.v (.agg [.int .i64 a0, .int .i64 a1, .int .i64 a2, .int .i64 a3])], hb => qsatT a0 a1 a2 a3 hb
  | _, _ => none
theorem sumqsat : SumOK Try.prog 81 (accSum 41 qsatF) := by
  refine accSum_run (z := Zl) sound22 (own_of sound22 Try.func81 (by kernel_rfl)) fun args hb v h' cs hF hc => ?_
  unfold qsatF at hF
  split at hF
  · rename_i a0 a1 a2 a3
    unfold qsatT at hF
    cases hF
    exact ⟨rfl, 2000, [none, none, none, none, none], _, qsatR1 a0 a1 a2 a3 hb, ae_nil⟩
  · cases hF

theorem rofR1 (a0 a1 a2 a3 : Int) (hb : Bool) : (runF Try.prog S22 Zl 2000 13 [A0, .v (.agg [.int .i64 a0, .int .i64 a1, .int .i64 a2, .int .i64 a3])] [(0, flag 41 hb)] 1 [none, none, none, none, none]).map acc3 = some (LV.v (V1.agg [At.int IntKind.i64 (s1V 1 1 (-1) (-1) (satV a0) (satV a1) (satV a2) (satV a3)), At.int IntKind.i64 (t1V (satV a1) (satV a2) (wr IntKind.i64 (0 - satV a0)) (satV a3)), At.int IntKind.i64 (t1V (satV a1) (satV a3) (satV a0) (satV a2)), At.int IntKind.i64 (t1V (satV a1) (satV a2) (satV a0) (satV a3)), At.int IntKind.i64 (s1V 1 (-1) 1 (-1) (satV a0) (satV a1) (satV a2) (satV a3)), At.int IntKind.i64 (t1V (satV a2) (satV a3) (wr IntKind.i64 (0 - satV a0)) (satV a1)), At.int IntKind.i64 (t1V (satV a1) (satV a3) (wr IntKind.i64 (0 - satV a0)) (satV a2)), At.int IntKind.i64 (t1V (satV a2) (satV a3) (satV a0) (satV a1)), At.int IntKind.i64 (s1V 1 (-1) (-1) 1 (satV a0) (satV a1) (satV a2) (satV a3))]), some { ty := 41, fr := (0, 0), es := 0, cells := [At.bool (hb || satH a0 || satH a1 || satH a2 || satH a3 || s1H 1 1 (-1) (-1) (satV a0) (satV a1) (satV a2) (satV a3) || t1H (satV a1) (satV a2) (wr IntKind.i64 (0 - satV a0)) (satV a3) || t1H (satV a1) (satV a3) (satV a0) (satV a2) || t1H (satV a1) (satV a2) (satV a0) (satV a3) || s1H 1 (-1) 1 (-1) (satV a0) (satV a1) (satV a2) (satV a3) || t1H (satV a2) (satV a3) (wr IntKind.i64 (0 - satV a0)) (satV a1) || t1H (satV a1) (satV a3) (wr IntKind.i64 (0 - satV a0)) (satV a2) || t1H (satV a2) (satV a3) (satV a0) (satV a1) || s1H 1 (-1) (-1) 1 (satV a0) (satV a1) (satV a2) (satV a3))] }, []) := by kernel_rfl
def rofT (a0 a1 a2 a3 : Int) (hb : Bool) : Option (LV × Bool × List (Bool × Bool)) := some (LV.v (V1.agg [At.int IntKind.i64 (s1V 1 1 (-1) (-1) (satV a0) (satV a1) (satV a2) (satV a3)), At.int IntKind.i64 (t1V (satV a1) (satV a2) (wr IntKind.i64 (0 - satV a0)) (satV a3)), At.int IntKind.i64 (t1V (satV a1) (satV a3) (satV a0) (satV a2)), At.int IntKind.i64 (t1V (satV a1) (satV a2) (satV a0) (satV a3)), At.int IntKind.i64 (s1V 1 (-1) 1 (-1) (satV a0) (satV a1) (satV a2) (satV a3)), At.int IntKind.i64 (t1V (satV a2) (satV a3) (wr IntKind.i64 (0 - satV a0)) (satV a1)), At.int IntKind.i64 (t1V (satV a1) (satV a3) (wr IntKind.i64 (0 - satV a0)) (satV a2)), At.int IntKind.i64 (t1V (satV a2) (satV a3) (satV a0) (satV a1)), At.int IntKind.i64 (s1V 1 (-1) (-1) 1 (satV a0) (satV a1) (satV a2) (satV a3))]), (hb || satH a0 || satH a1 || satH a2 || satH a3 || s1H 1 1 (-1) (-1) (satV a0) (satV a1) (satV a2) (satV a3) || t1H (satV a1) (satV a2) (wr IntKind.i64 (0 - satV a0)) (satV a3) || t1H (satV a1) (satV a3) (satV a0) (satV a2) || t1H (satV a1) (satV a2) (satV a0) (satV a3) || s1H 1 (-1) 1 (-1) (satV a0) (satV a1) (satV a2) (satV a3) || t1H (satV a2) (satV a3) (wr IntKind.i64 (0 - satV a0)) (satV a1) || t1H (satV a1) (satV a3) (wr IntKind.i64 (0 - satV a0)) (satV a2) || t1H (satV a2) (satV a3) (satV a0) (satV a1) || s1H 1 (-1) (-1) 1 (satV a0) (satV a1) (satV a2) (satV a3)), [])
def rofF : List LV → Bool → Option (LV × Bool × List (Bool × Bool))
  | [.v (.agg [.int .i64 a0, .int .i64 a1, .int .i64 a2, .int .i64 a3])], hb => rofT a0 a1 a2 a3 hb
  | _, _ => none
theorem sumrof : SumOK Try.prog 13 (accSum 41 rofF) := by
  refine accSum_run (z := Zl) sound22 (own_of sound22 Try.func13 (by kernel_rfl)) fun args hb v h' cs hF hc => ?_
  unfold rofF at hF
  split at hF
  · rename_i a0 a1 a2 a3
    unfold rofT at hF
    cases hF
    exact ⟨rfl, 2000, [none, none, none, none, none], _, rofR1 a0 a1 a2 a3 hb, ae_nil⟩
  · cases hF

theorem qoneR1  : (runF Try.prog S22 Zl 2000 44 [] [] 0 []).map (fun r => (r.1, r.2.2.2)) = some (LV.v (V1.agg [At.int IntKind.i64 1073741824, At.int IntKind.i64 0, At.int IntKind.i64 0, At.int IntKind.i64 0]), []) := by kernel_rfl
def qoneT  : Option (LV × List (Bool × Bool)) := some (LV.v (V1.agg [At.int IntKind.i64 1073741824, At.int IntKind.i64 0, At.int IntKind.i64 0, At.int IntKind.i64 0]), [])
def qoneF : List LV → Option (LV × List (Bool × Bool))
  | [] => qoneT 
  | _ => none
theorem sumqone : SumOK Try.prog 44 (pureSum qoneF) := by
  refine pureSum_run (z := Zl) sound22 (own_of sound22 Try.func44 (by kernel_rfl)) fun args v cs hF hc => ?_
  unfold qoneF at hF
  split at hF
  · unfold qoneT at hF
    cases hF
    exact ⟨2000, [], _, qoneR1 , ae_nil⟩
  · cases hF

def S23 : FuncId → Option SumK := (more (more (more S22 81 (accSum 41 qsatF)) 13 (accSum 41 rofF)) 44 (pureSum qoneF))
theorem sound23 : Sound Try.prog S23 := (((sound22.more sumqsat).more sumrof).more sumqone)
end Go.Proofs.Ytdkmiliehlhmbaa

/- The local evaluator: summaries of any functions, made by running them on all blocks that can be got at; new blocks are told by new numbers. -/
namespace Go.Lr
open Go.RowKit

def allLt (nb : Nat) : List Nat → Bool
  | [] => true
  | a :: l => match Nat.blt a nb with
    | true => allLt nb l
    | false => false
def okArgs (p : Nat → Bool) : List LV → Bool
  | [] => true
  | a :: l => match a.ok p with
    | true => okArgs p l
    | false => false
def posN (j : Nat) : Nat → List Nat → Option Nat
  | _, [] => none
  | k, a :: l => match Nat.beq a j with
    | true => some k
    | false => posN j (k + 1) l
def nmG (seen keys : List Nat) (nb : Nat) (i : Nat) : Option Nat :=
  match memB seen i with
  | true => some i
  | false => posN i nb keys
def rnC (φ : Nat → Option Nat) : List (Nat × Nat) → Option (List (Nat × Nat))
  | [] => some []
  | c :: l => match φ c.1, rnC φ l with
    | some b, some r => some ((b, c.2) :: r)
    | _, _ => none
def rnA (φ : Nat → Option Nat) : At → Option At
  | .ptr b o => match φ b with
    | some c => some (.ptr c o)
    | none => none
  | .sl b o n k => match φ b with
    | some c => some (.sl c o n k)
    | none => none
  | .slu b n => match φ b with
    | some c => some (.slu c n)
    | none => none
  | .slx b o n k => match φ b with
    | some c => some (.slx c o n k)
    | none => none
  | .ptx b o => match φ b with
    | some c => some (.ptx c o)
    | none => none
  | .fn f caps => match rnC φ caps with
    | some c => some (.fn f c)
    | none => none
  | a => some a
def rnL (φ : Nat → Option Nat) : List At → Option (List At)
  | [] => some []
  | a :: l => match rnA φ a, rnL φ l with
    | some b, some r => some (b :: r)
    | _, _ => none
def rnV1 (φ : Nat → Option Nat) : V1 → Option V1
  | .one a => match rnA φ a with
    | some b => some (.one b)
    | none => none
  | .agg l => match rnL φ l with
    | some r => some (.agg r)
    | none => none
def rnVs (φ : Nat → Option Nat) : List V1 → Option (List V1)
  | [] => some []
  | a :: l => match rnV1 φ a, rnVs φ l with
    | some b, some r => some (b :: r)
    | _, _ => none
def rnLV (φ : Nat → Option Nat) : LV → Option LV
  | .v x => match rnV1 φ x with
    | some y => some (.v y)
    | none => none
  | .tup l => match rnVs φ l with
    | some r => some (.tup r)
    | none => none
def rnB (φ : Nat → Option Nat) (b : Blk) : Option Blk :=
  match rnL φ b.cells with
  | some l => some ⟨b.ty, b.fr, b.es, l⟩
  | none => none
def rnBs (φ : Nat → Option Nat) : List Blk → Option (List Blk)
  | [] => some []
  | a :: l => match rnB φ a, rnBs φ l with
    | some b, some r => some (b :: r)
    | _, _ => none
def keysGe (nb : Nat) : Mem → List Nat
  | [] => []
  | (j, _) :: m => match Nat.ble nb j with
    | true => j :: keysGe nb m
    | false => keysGe nb m
def zipM : List Nat → List Blk → Mem
  | i :: l, k :: ks => (i, k) :: zipM l ks
  | _, _ => []
def wrsG (φ : Nat → Option Nat) (m : Mem) : List Nat → Option (List (Nat × Option Blk))
  | [] => some []
  | i :: l => match wrsG φ m l with
    | some r => match getM m i with
      | none => some ((i, none) :: r)
      | some b => match rnB φ b with
        | some c => some ((i, some c) :: r)
        | none => none
    | none => none
def outG (seen : List Nat) (nb : Nat) (v : LV) (m' : Mem) (cs : List (Bool × Bool)) (keys : List Nat) : Option Dl :=
  match nodupB keys, liveAll (getM m') keys with
  | true, some bs => match rnLV (nmG seen keys nb) v, wrsG (nmG seen keys nb) m' seen, rnBs (nmG seen keys nb) bs with
    | some v', some ws, some bs' => some ⟨v', ws, bs', seen, cs⟩
    | _, _, _ => none
  | _, _ => none
theorem allLt_iff {nb : Nat} : ∀ {l : List Nat}, allLt nb l = true → ∀ i ∈ l, i < nb
  | [], _, i, hi => by cases hi
  | a :: l, h, i, hi => by
    simp only [allLt, nblt] at h
    split at h
    · rename_i ha
      have ha' : a < nb := by simpa using ha
      rcases List.mem_cons.1 hi with rfl | hi
      · exact ha'
      · exact allLt_iff h i hi
    · cases h
theorem okArgs_iff {p : Nat → Bool} : ∀ {l : List LV}, okArgs p l = true → ∀ v ∈ l, v.ok p = true
  | [], _, i, hi => by cases hi
  | a :: l, h, i, hi => by
    simp only [okArgs] at h
    split at h
    · rename_i ha
      rcases List.mem_cons.1 hi with rfl | hi
      · exact ha
      · exact okArgs_iff h i hi
    · cases h
theorem posN_spec {j : Nat} : ∀ {l : List Nat} {k i : Nat}, posN j k l = some i → k ≤ i ∧ i < k + l.length ∧ l[i - k]? = some j
  | [], k, i, h => by simp [posN] at h
  | a :: l, k, i, h => by
    simp only [posN, nbeq] at h
    split at h
    · rename_i ha
      have ha' : a = j := by simpa using ha
      cases h
      subst ha'
      exact ⟨Nat.le_refl _, by simp, by simp⟩
    · obtain ⟨h1, h2, h3⟩ := posN_spec h
      refine ⟨by omega, by simp; omega, ?_⟩
      rw [show i - k = (i - (k + 1)) + 1 by omega, List.getElem?_cons_succ]
      exact h3

section
variable {φ : Nat → Option Nat} {E E' : Env}
theorem rnC_den (hφ : ∀ i c, φ i = some c → E' c = E i) : ∀ {l r : List (Nat × Nat)}, rnC φ l = some r → l.map (fun p => Value.pointer (some ⟨(E p.1).1, p.2, none⟩)) = r.map (fun p => Value.pointer (some ⟨(E' p.1).1, p.2, none⟩))
  | [], r, h => by simp only [rnC] at h; cases h; rfl
  | c :: l, r, h => by
    simp only [rnC] at h
    split at h
    · rename_i b r' hb hr
      cases h
      simp only [List.map_cons, hφ _ _ hb, rnC_den hφ hr]
    · cases h
theorem rnA_den (hφ : ∀ i c, φ i = some c → E' c = E i) {a b : At} (h : rnA φ a = some b) : a.den E = b.den E' := by
  unfold rnA at h
  split at h
  · split at h
    · rename_i hc; cases h; simp only [At.den, hφ _ _ hc]
    · cases h
  · split at h
    · rename_i hc; cases h; simp only [At.den, hφ _ _ hc]
    · cases h
  · split at h
    · rename_i hc; cases h; simp only [At.den, hφ _ _ hc]
    · cases h
  · split at h
    · rename_i hc; cases h; simp only [At.den, hφ _ _ hc]
    · cases h
  · split at h
    · rename_i hc; cases h; simp only [At.den, hφ _ _ hc]
    · cases h
  · split at h
    · rename_i hc; cases h; simp only [At.den, rnC_den hφ hc]
    · cases h
  · rename_i h1 h2 h3 h4 h5 h6
    cases h
    cases a with
    | ptr b o => exact absurd rfl (h1 b o)
    | sl b o n c => exact absurd rfl (h2 b o n c)
    | slu b n => exact absurd rfl (h3 b n)
    | slx b o n c => exact absurd rfl (h4 b o n c)
    | ptx b o => exact absurd rfl (h5 b o)
    | fn f c => exact absurd rfl (h6 f c)
    | _ => rfl
theorem rnL_den (hφ : ∀ i c, φ i = some c → E' c = E i) : ∀ {l r : List At}, rnL φ l = some r → l.map (At.den E) = r.map (At.den E')
  | [], r, h => by simp only [rnL] at h; cases h; rfl
  | c :: l, r, h => by
    simp only [rnL] at h
    split at h
    · rename_i b r' hb hr
      cases h
      simp only [List.map_cons, rnA_den hφ hb, rnL_den hφ hr]
    · cases h
theorem rnL_len : ∀ {l r : List At}, rnL φ l = some r → r.length = l.length
  | [], r, h => by simp only [rnL] at h; cases h; rfl
  | c :: l, r, h => by
    simp only [rnL] at h
    split at h
    · rename_i b r' hb hr
      cases h
      simp only [List.length_cons, rnL_len hr]
    · cases h
theorem rnV1_den (hφ : ∀ i c, φ i = some c → E' c = E i) {a b : V1} (h : rnV1 φ a = some b) : a.den E = b.den E' := by
  unfold rnV1 at h
  split at h
  · split at h
    · rename_i hb; cases h; exact rnA_den hφ hb
    · cases h
  · split at h
    · rename_i hb; cases h; simp only [V1.den, rnL_den hφ hb]
    · cases h
theorem rnVs_den (hφ : ∀ i c, φ i = some c → E' c = E i) : ∀ {l r : List V1}, rnVs φ l = some r → l.map (V1.den E) = r.map (V1.den E')
  | [], r, h => by simp only [rnVs] at h; cases h; rfl
  | c :: l, r, h => by
    simp only [rnVs] at h
    split at h
    · rename_i b r' hb hr
      cases h
      simp only [List.map_cons, rnV1_den hφ hb, rnVs_den hφ hr]
    · cases h
theorem rnLV_den (hφ : ∀ i c, φ i = some c → E' c = E i) {a b : LV} (h : rnLV φ a = some b) : a.den E = b.den E' := by
  unfold rnLV at h
  split at h
  · split at h
    · rename_i hb; cases h; exact rnV1_den hφ hb
    · cases h
  · split at h
    · rename_i hb; cases h; simp only [LV.den, rnVs_den hφ hb]
    · cases h
theorem rnB_at (hφ : ∀ i c, φ i = some c → E' c = E i) {b c : Blk} {i j : Nat} {w : World} (h : rnB φ b = some c) (he : E' j = E i) (hb : blkAt E i b w) : blkAt E' j c w := by
  unfold rnB at h
  split at h
  · rename_i l hl
    cases h
    obtain ⟨r, h1, h2, h3⟩ := hb
    refine ⟨r, ?_, h2, fun hz => ?_⟩
    · show w.heap[(E' j).1]? = some (.cells (l.map (At.den E') ++ r).toArray b.ty b.fr)
      rw [he, ← rnL_den hφ hl]; exact h1
    · show l.length + r.length = (E' j).2 * b.es
      rw [he, rnL_len hl]; exact h3 hz
  · cases h
end

theorem rnBs_get {φ : Nat → Option Nat} : ∀ {l r : List Blk}, rnBs φ l = some r → r.length = l.length ∧ ∀ (i : Nat) (c : Blk), r[i]? = some c → ∃ b, l[i]? = some b ∧ rnB φ b = some c
  | [], r, h => by
    simp only [rnBs] at h; cases h
    exact ⟨rfl, fun i c hc => by simp at hc⟩
  | b :: l, r, h => by
    simp only [rnBs] at h
    split at h
    · rename_i c r' hb hr
      cases h
      obtain ⟨h1, h2⟩ := rnBs_get hr
      refine ⟨by simp [h1], fun i d hd => ?_⟩
      cases i with
      | zero => simp only [List.getElem?_cons_zero, Option.some.injEq] at hd ⊢; subst hd; exact ⟨b, rfl, hb⟩
      | succ i => simp only [List.getElem?_cons_succ] at hd ⊢; exact h2 i d hd
    · cases h
theorem liveAll_get {g : Nat → Option Blk} : ∀ {l : List Nat} {r : List Blk}, liveAll g l = some r → r.length = l.length ∧ ∀ (i : Nat) (j : Nat), l[i]? = some j → ∃ b, r[i]? = some b ∧ g j = some b
  | [], r, h => by
    simp only [liveAll] at h; cases h
    exact ⟨rfl, fun i c hc => by simp at hc⟩
  | a :: l, r, h => by
    simp only [liveAll] at h
    split at h
    · rename_i k r' hk hr
      cases h
      obtain ⟨h1, h2⟩ := liveAll_get hr
      refine ⟨by simp [h1], fun i j hj => ?_⟩
      cases i with
      | zero => simp only [List.getElem?_cons_zero, Option.some.injEq] at hj ⊢; subst hj; exact ⟨k, rfl, hk⟩
      | succ i => simp only [List.getElem?_cons_succ] at hj ⊢; exact h2 i j hj
    · cases h
theorem getM_zipM {g : Nat → Option Blk} : ∀ {l : List Nat} {ks : List Blk}, liveAll g l = some ks → ∀ i, getM (zipM l ks) i = if i ∈ l then g i else none
  | [], ks, h, i => by simp only [liveAll] at h; cases h; simp [zipM, getM]
  | a :: l, ks, h, i => by
    simp only [liveAll] at h
    split at h
    · rename_i k r hk hr
      cases h
      simp only [zipM]
      rw [getM_cons, getM_zipM hr]
      by_cases hi : i = a
      · subst hi; simp [hk]
      · simp [hi]
    · cases h
theorem uniq_zipM {g : Nat → Option Blk} : ∀ {l : List Nat} {ks : List Blk}, liveAll g l = some ks → l.Nodup → uniq (zipM l ks)
  | [], ks, h, _ => by simp only [liveAll] at h; cases h; trivial
  | a :: l, ks, h, hn => by
    simp only [liveAll] at h
    split at h
    · rename_i k r hk hr
      cases h
      rw [List.nodup_cons] at hn
      refine ⟨?_, uniq_zipM hr hn.2⟩
      rw [getM_zipM hr, if_neg hn.1]
    · cases h
theorem keysGe_ge (nb : Nat) : ∀ (m : Mem), ∀ j ∈ keysGe nb m, nb ≤ j
  | [], j, hj => by cases hj
  | (a, b) :: m, j, hj => by
    simp only [keysGe] at hj
    split at hj
    · rename_i ha
      rcases List.mem_cons.1 hj with rfl | hj
      · exact Nat.le_of_ble_eq_true ha
      · exact keysGe_ge nb m j hj
    · exact keysGe_ge nb m j hj
theorem wrsG_spec {φ : Nat → Option Nat} {m : Mem} : ∀ {l : List Nat} {ws : List (Nat × Option Blk)}, wrsG φ m l = some ws → ws.map (·.1) = l ∧ ∀ x ∈ ws, (x.2 = none) ∨ ∃ b c, getM m x.1 = some b ∧ rnB φ b = some c ∧ x.2 = some c
  | [], ws, h => by simp only [wrsG] at h; cases h; exact ⟨rfl, fun x hx => by cases hx⟩
  | i :: l, ws, h => by
    simp only [wrsG] at h
    split at h
    · rename_i r hr
      obtain ⟨h1, h2⟩ := wrsG_spec hr
      split at h
      · cases h
        refine ⟨by simp [h1], fun x hx => ?_⟩
        rcases List.mem_cons.1 hx with rfl | hx
        · exact .inl rfl
        · exact h2 x hx
      · rename_i b hb
        split at h
        · rename_i c hc
          cases h
          refine ⟨by simp [h1], fun x hx => ?_⟩
          rcases List.mem_cons.1 hx with rfl | hx
          · exact .inr ⟨b, c, hb, hc, rfl⟩
          · exact h2 x hx
        · cases h
    · cases h
theorem wrG_in {g : Nat → Option Blk} : ∀ (l : List (Nat × Option Blk)), (l.map (·.1)).Nodup → ∀ x ∈ l, wrG g l x.1 = x.2
  | [], _, x, hx => by cases hx
  | (i, s) :: l, hn, x, hx => by
    simp only [List.map_cons, List.nodup_cons] at hn
    simp only [wrG]
    rcases List.mem_cons.1 hx with rfl | hx
    · rw [wrG_none]
      · simp
      · intro y hy e
        exact hn.1 (by have h := List.mem_map_of_mem (f := fun x : Nat × Option Blk => x.1) hy; rw [e] at h; exact h)
    · exact wrG_in l hn.2 x hx
theorem nwG_at {g : Nat → Option Blk} : ∀ (l : List Blk) (nb k : Nat), nb ≤ k → k < nb + l.length → nwG g nb l k = l[k - nb]?
  | [], nb, k, h1, h2 => by simp at h2; omega
  | b :: l, nb, k, h1, h2 => by
    simp only [nwG]
    by_cases hk : k = nb
    · subst hk
      rw [nwG_none l (k + 1) k (by omega)]
      simp
    · rw [nwG_at l (nb + 1) k (by omega) (by simp at h2; omega), show k - nb = (k - (nb + 1)) + 1 by omega, List.getElem?_cons_succ]

section
variable {P : Program} {S : FuncId → Option SumK} {z : Md}
end
/-- A summary more, of this kind. -/
def moreG (S : FuncId → Option SumK) (f : FuncId) (s : List LV → List Nat → List Blk → Nat → Option Dl) : FuncId → Option SumK := fun g =>
  match Nat.beq g f with
  | true => some (.gen s)
  | false => S g
section
variable {P : Program} {S : FuncId → Option SumK}
theorem Sound.moreG (h : Sound P S) {f : FuncId} {s : List LV → List Nat → List Blk → Nat → Option Dl} (hs : GenOK P f s) : Sound P (Go.Lr.moreG S f s) := by
  refine ⟨fun g t hg => ?_, h.mix, h.ng⟩
  unfold Go.Lr.moreG at hg
  split at hg
  · rename_i he
    cases hg
    rw [nbeq] at he
    have : g = f := by simpa using he
    subst this
    exact hs
  · exact h.sums g t hg
end
end Go.Lr

/- Summaries that the evaluator makes by running the callee. -/
namespace Go.Proofs.Ytdkmiliehlhmbaa
open Go.Lr

noncomputable def T0 : FuncId → Option SumK := S23
theorem soundT0 : Sound Try.prog T0 := sound23
noncomputable def T1 : FuncId → Option SumK := T0
theorem soundT1 : Sound Try.prog T1 := soundT0
noncomputable def T2 : FuncId → Option SumK := more T1 63 (autoP Try.prog T1 Zl 2000 63)
theorem soundT2 : Sound Try.prog T2 := soundT1.more (autoP_ok soundT1 (own_of soundT1 Try.func63 (by kernel_rfl)))
noncomputable def T3 : FuncId → Option SumK := T2
theorem soundT3 : Sound Try.prog T3 := soundT2
noncomputable def T4 : FuncId → Option SumK := T3
theorem soundT4 : Sound Try.prog T4 := soundT3
noncomputable def T5 : FuncId → Option SumK := more T4 39 (autoP Try.prog T4 Zl 2000 39)
theorem soundT5 : Sound Try.prog T5 := soundT4.more (autoP_ok soundT4 (own_of soundT4 Try.func39 (by kernel_rfl)))
noncomputable def T6 : FuncId → Option SumK := more T5 40 (autoP Try.prog T5 Zl 2000 40)
theorem soundT6 : Sound Try.prog T6 := soundT5.more (autoP_ok soundT5 (own_of soundT5 Try.func40 (by kernel_rfl)))
noncomputable def T7 : FuncId → Option SumK := T6
theorem soundT7 : Sound Try.prog T7 := soundT6
noncomputable def T8 : FuncId → Option SumK := more T7 26 (autoP Try.prog T7 Zl 2000 26)
theorem soundT8 : Sound Try.prog T8 := soundT7.more (autoP_ok soundT7 (own_of soundT7 Try.func26 (by kernel_rfl)))
noncomputable def T9 : FuncId → Option SumK := T8
theorem soundT9 : Sound Try.prog T9 := soundT8
noncomputable def T10 : FuncId → Option SumK := T9
theorem soundT10 : Sound Try.prog T10 := soundT9
noncomputable def T11 : FuncId → Option SumK := T10
theorem soundT11 : Sound Try.prog T11 := soundT10
noncomputable def T12 : FuncId → Option SumK := T11
theorem soundT12 : Sound Try.prog T12 := soundT11
noncomputable def T13 : FuncId → Option SumK := T12
theorem soundT13 : Sound Try.prog T13 := soundT12
noncomputable def T14 : FuncId → Option SumK := T13
theorem soundT14 : Sound Try.prog T14 := soundT13
noncomputable def T15 : FuncId → Option SumK := more T14 54 (autoM Try.prog T14 Zl 2000 54)
theorem soundT15 : Sound Try.prog T15 := soundT14.more (autoM_ok soundT14 (own_of soundT14 Try.func54 (by kernel_rfl)))
noncomputable def T16 : FuncId → Option SumK := more T15 50 (autoM Try.prog T15 Zl 2000 50)
theorem soundT16 : Sound Try.prog T16 := soundT15.more (autoM_ok soundT15 (own_of soundT15 Try.func50 (by kernel_rfl)))
noncomputable def T17 : FuncId → Option SumK := T16
theorem soundT17 : Sound Try.prog T17 := soundT16
noncomputable def T18 : FuncId → Option SumK := T17
theorem soundT18 : Sound Try.prog T18 := soundT17
noncomputable def T19 : FuncId → Option SumK := T18
theorem soundT19 : Sound Try.prog T19 := soundT18
noncomputable def T20 : FuncId → Option SumK := more T19 51 (autoM Try.prog T19 Zl 2000 51)
theorem soundT20 : Sound Try.prog T20 := soundT19.more (autoM_ok soundT19 (own_of soundT19 Try.func51 (by kernel_rfl)))
noncomputable def T21 : FuncId → Option SumK := T20
theorem soundT21 : Sound Try.prog T21 := soundT20
noncomputable def T22 : FuncId → Option SumK := more T21 16 (autoM Try.prog T21 Zl 2000 16)
theorem soundT22 : Sound Try.prog T22 := soundT21.more (autoM_ok soundT21 (own_of soundT21 Try.func16 (by kernel_rfl)))
noncomputable def T23 : FuncId → Option SumK := more T22 14 (autoM Try.prog T22 Zl 2000 14)
theorem soundT23 : Sound Try.prog T23 := soundT22.more (autoM_ok soundT22 (own_of soundT22 Try.func14 (by kernel_rfl)))
noncomputable def T24 : FuncId → Option SumK := more T23 61 (autoP Try.prog T23 Zl 2000 61)
theorem soundT24 : Sound Try.prog T24 := soundT23.more (autoP_ok soundT23 (own_of soundT23 Try.func61 (by kernel_rfl)))
noncomputable def T25 : FuncId → Option SumK := more T24 79 (autoM Try.prog T24 Zl 2000 79)
theorem soundT25 : Sound Try.prog T25 := soundT24.more (autoM_ok soundT24 (own_of soundT24 Try.func79 (by kernel_rfl)))
noncomputable def T26 : FuncId → Option SumK := more T25 53 (autoM Try.prog T25 Zl 2000 53)
theorem soundT26 : Sound Try.prog T26 := soundT25.more (autoM_ok soundT25 (own_of soundT25 Try.func53 (by kernel_rfl)))
noncomputable def T27 : FuncId → Option SumK := more T26 55 (autoM Try.prog T26 Zl 2000 55)
theorem soundT27 : Sound Try.prog T27 := soundT26.more (autoM_ok soundT26 (own_of soundT26 Try.func55 (by kernel_rfl)))
noncomputable def T28 : FuncId → Option SumK := more T27 59 (autoM Try.prog T27 Zl 2000 59)
theorem soundT28 : Sound Try.prog T28 := soundT27.more (autoM_ok soundT27 (own_of soundT27 Try.func59 (by kernel_rfl)))
noncomputable def T29 : FuncId → Option SumK := T28
theorem soundT29 : Sound Try.prog T29 := soundT28
noncomputable def T30 : FuncId → Option SumK := T29
theorem soundT30 : Sound Try.prog T30 := soundT29
noncomputable def T31 : FuncId → Option SumK := T30
theorem soundT31 : Sound Try.prog T31 := soundT30
noncomputable def T32 : FuncId → Option SumK := T31
theorem soundT32 : Sound Try.prog T32 := soundT31
noncomputable def T33 : FuncId → Option SumK := more T32 17 (autoM Try.prog T32 Zl 2000 17)
theorem soundT33 : Sound Try.prog T33 := soundT32.more (autoM_ok soundT32 (own_of soundT32 Try.func17 (by kernel_rfl)))
noncomputable def T34 : FuncId → Option SumK := more T33 19 (autoM Try.prog T33 Zl 2000 19)
theorem soundT34 : Sound Try.prog T34 := soundT33.more (autoM_ok soundT33 (own_of soundT33 Try.func19 (by kernel_rfl)))
noncomputable def T35 : FuncId → Option SumK := more T34 21 (autoM Try.prog T34 Zl 2000 21)
theorem soundT35 : Sound Try.prog T35 := soundT34.more (autoM_ok soundT34 (own_of soundT34 Try.func21 (by kernel_rfl)))
noncomputable def T36 : FuncId → Option SumK := more T35 22 (autoM Try.prog T35 Zl 2000 22)
theorem soundT36 : Sound Try.prog T36 := soundT35.more (autoM_ok soundT35 (own_of soundT35 Try.func22 (by kernel_rfl)))
noncomputable def T37 : FuncId → Option SumK := T36
theorem soundT37 : Sound Try.prog T37 := soundT36
noncomputable def T38 : FuncId → Option SumK := T37
theorem soundT38 : Sound Try.prog T38 := soundT37
noncomputable def T39 : FuncId → Option SumK := T38
theorem soundT39 : Sound Try.prog T39 := soundT38
noncomputable def T40 : FuncId → Option SumK := T39
theorem soundT40 : Sound Try.prog T40 := soundT39
noncomputable def T41 : FuncId → Option SumK := T40
theorem soundT41 : Sound Try.prog T41 := soundT40
noncomputable def T42 : FuncId → Option SumK := T41
theorem soundT42 : Sound Try.prog T42 := soundT41
noncomputable def T43 : FuncId → Option SumK := T42
theorem soundT43 : Sound Try.prog T43 := soundT42
noncomputable def S24 : FuncId → Option SumK := T43
theorem sound24 : Sound Try.prog S24 := soundT43
end Go.Proofs.Ytdkmiliehlhmbaa

/- The second reference's scalars: sizes, products, comparing, clamping: runs (printed), and what they come to. -/
namespace Go.Proofs.Ytdkmiliehlhmbaa
open Go.Lr
set_option linter.unusedVariables false
set_option linter.unusedSimpArgs false

theorem rsizeR1 (a : Int) : (runF Try.prog S24 Zl 2000 36 [.v (.one (.int .i64 a))] [] 0 [some true]).map (fun r => (r.1, r.2.2.2)) = some (LV.v (V1.one (At.int IntKind.u64 (wr IntKind.u64 (wr IntKind.i64 (0 - a))))), [(decide (a < 0), true)]) := by kernel_rfl
theorem rsizeR2 (a : Int) : (runF Try.prog S24 Zl 2000 36 [.v (.one (.int .i64 a))] [] 0 [some false]).map (fun r => (r.1, r.2.2.2)) = some (LV.v (V1.one (At.int IntKind.u64 (wr IntKind.u64 a))), [(decide (a < 0), false)]) := by kernel_rfl
def rsizeT (a : Int) : Option (LV × List (Bool × Bool)) := 
  bif (decide (a < 0)) then some (LV.v (V1.one (At.int IntKind.u64 (wr IntKind.u64 (wr IntKind.i64 (0 - a))))), [])
  else some (LV.v (V1.one (At.int IntKind.u64 (wr IntKind.u64 a))), [])
def rsizeF : List LV → Option (LV × List (Bool × Bool))
  | [.v (.one (.int .i64 a))] => rsizeT a
  | _ => none
theorem sumrsize : SumOK Try.prog 36 (pureSum rsizeF) := by
  refine pureSum_run (z := Zl) sound24 (own_of sound24 Try.func36 (by kernel_rfl)) fun args v cs hF hc => ?_
  unfold rsizeF at hF
  split at hF
  · rename_i a
    unfold rsizeT at hF
    rcases bool_cases (decide (a < 0)) with h0 | h0
    · rw [cond_t h0] at hF
      cases hF
      exact ⟨2000, [some true], _, rsizeR1 a, ae_cons (h0) (ae_nil)⟩
    · rw [cond_f h0] at hF
      cases hF
      exact ⟨2000, [some false], _, rsizeR2 a, ae_cons (h0) (ae_nil)⟩
  · cases hF

theorem rprodR1 (a b : Int) : (runF Try.prog S24 Zl 2000 68 [.v (.one (.int .u64 a)), .v (.one (.int .u64 b))] [] 0 []).map (fun r => (r.1, r.2.2.2)) = some (LV.tup [V1.one (At.int IntKind.u64 (wr IntKind.u64 (wr IntKind.u64 (wr IntKind.u64 (a / pow2 (min (Int.toNat 32) IntKind.u64.bits) * (b / pow2 (min (Int.toNat 32) IntKind.u64.bits))) + wr IntKind.u64 (wr IntKind.u64 (a / pow2 (min (Int.toNat 32) IntKind.u64.bits) * Int.ofNat ((u64 b).toNat.land (u64 4294967295).toNat)) + wr IntKind.u64 (Int.ofNat ((u64 a).toNat.land (u64 4294967295).toNat) * Int.ofNat ((u64 b).toNat.land (u64 4294967295).toNat)) / pow2 (min (Int.toNat 32) IntKind.u64.bits)) / pow2 (min (Int.toNat 32) IntKind.u64.bits)) + wr IntKind.u64 (wr IntKind.u64 (Int.ofNat ((u64 a).toNat.land (u64 4294967295).toNat) * (b / pow2 (min (Int.toNat 32) IntKind.u64.bits))) + Int.ofNat ((u64 (wr IntKind.u64 (wr IntKind.u64 (a / pow2 (min (Int.toNat 32) IntKind.u64.bits) * Int.ofNat ((u64 b).toNat.land (u64 4294967295).toNat)) + wr IntKind.u64 (Int.ofNat ((u64 a).toNat.land (u64 4294967295).toNat) * Int.ofNat ((u64 b).toNat.land (u64 4294967295).toNat)) / pow2 (min (Int.toNat 32) IntKind.u64.bits)))).toNat.land (u64 4294967295).toNat)) / pow2 (min (Int.toNat 32) IntKind.u64.bits)))), V1.one (At.int IntKind.u64 (Int.ofNat ((u64 (wr IntKind.u64 (wr IntKind.u64 (wr IntKind.u64 (Int.ofNat ((u64 a).toNat.land (u64 4294967295).toNat) * (b / pow2 (min (Int.toNat 32) IntKind.u64.bits))) + Int.ofNat ((u64 (wr IntKind.u64 (wr IntKind.u64 (a / pow2 (min (Int.toNat 32) IntKind.u64.bits) * Int.ofNat ((u64 b).toNat.land (u64 4294967295).toNat)) + wr IntKind.u64 (Int.ofNat ((u64 a).toNat.land (u64 4294967295).toNat) * Int.ofNat ((u64 b).toNat.land (u64 4294967295).toNat)) / pow2 (min (Int.toNat 32) IntKind.u64.bits)))).toNat.land (u64 4294967295).toNat)) * pow2 (min (Int.toNat 32) IntKind.u64.bits)))).toNat.lor (u64 (Int.ofNat ((u64 (wr IntKind.u64 (Int.ofNat ((u64 a).toNat.land (u64 4294967295).toNat) * Int.ofNat ((u64 b).toNat.land (u64 4294967295).toNat)))).toNat.land (u64 4294967295).toNat))).toNat)))], []) := by kernel_rfl
def rprodT (a b : Int) : Option (LV × List (Bool × Bool)) := some (LV.tup [V1.one (At.int IntKind.u64 (wr IntKind.u64 (wr IntKind.u64 (wr IntKind.u64 (a / pow2 (min (Int.toNat 32) IntKind.u64.bits) * (b / pow2 (min (Int.toNat 32) IntKind.u64.bits))) + wr IntKind.u64 (wr IntKind.u64 (a / pow2 (min (Int.toNat 32) IntKind.u64.bits) * Int.ofNat ((u64 b).toNat.land (u64 4294967295).toNat)) + wr IntKind.u64 (Int.ofNat ((u64 a).toNat.land (u64 4294967295).toNat) * Int.ofNat ((u64 b).toNat.land (u64 4294967295).toNat)) / pow2 (min (Int.toNat 32) IntKind.u64.bits)) / pow2 (min (Int.toNat 32) IntKind.u64.bits)) + wr IntKind.u64 (wr IntKind.u64 (Int.ofNat ((u64 a).toNat.land (u64 4294967295).toNat) * (b / pow2 (min (Int.toNat 32) IntKind.u64.bits))) + Int.ofNat ((u64 (wr IntKind.u64 (wr IntKind.u64 (a / pow2 (min (Int.toNat 32) IntKind.u64.bits) * Int.ofNat ((u64 b).toNat.land (u64 4294967295).toNat)) + wr IntKind.u64 (Int.ofNat ((u64 a).toNat.land (u64 4294967295).toNat) * Int.ofNat ((u64 b).toNat.land (u64 4294967295).toNat)) / pow2 (min (Int.toNat 32) IntKind.u64.bits)))).toNat.land (u64 4294967295).toNat)) / pow2 (min (Int.toNat 32) IntKind.u64.bits)))), V1.one (At.int IntKind.u64 (Int.ofNat ((u64 (wr IntKind.u64 (wr IntKind.u64 (wr IntKind.u64 (Int.ofNat ((u64 a).toNat.land (u64 4294967295).toNat) * (b / pow2 (min (Int.toNat 32) IntKind.u64.bits))) + Int.ofNat ((u64 (wr IntKind.u64 (wr IntKind.u64 (a / pow2 (min (Int.toNat 32) IntKind.u64.bits) * Int.ofNat ((u64 b).toNat.land (u64 4294967295).toNat)) + wr IntKind.u64 (Int.ofNat ((u64 a).toNat.land (u64 4294967295).toNat) * Int.ofNat ((u64 b).toNat.land (u64 4294967295).toNat)) / pow2 (min (Int.toNat 32) IntKind.u64.bits)))).toNat.land (u64 4294967295).toNat)) * pow2 (min (Int.toNat 32) IntKind.u64.bits)))).toNat.lor (u64 (Int.ofNat ((u64 (wr IntKind.u64 (Int.ofNat ((u64 a).toNat.land (u64 4294967295).toNat) * Int.ofNat ((u64 b).toNat.land (u64 4294967295).toNat)))).toNat.land (u64 4294967295).toNat))).toNat)))], [])
def rprodF : List LV → Option (LV × List (Bool × Bool))
  | [.v (.one (.int .u64 a)), .v (.one (.int .u64 b))] => rprodT a b
  | _ => none
theorem sumrprod : SumOK Try.prog 68 (pureSum rprodF) := by
  refine pureSum_run (z := Zl) sound24 (own_of sound24 Try.func68 (by kernel_rfl)) fun args v cs hF hc => ?_
  unfold rprodF at hF
  split at hF
  · rename_i a b
    unfold rprodT at hF
    cases hF
    exact ⟨2000, [], _, rprodR1 a b, ae_nil⟩
  · cases hF

theorem rlessR1 (x y : Int) (n : Bool) (x' y' : Int) (n' : Bool) : (runF Try.prog S24 Zl 2000 84 [.v (.agg [.int .u64 x, .int .u64 y, .bool n]), .v (.agg [.int .u64 x', .int .u64 y', .bool n'])] [] 0 [some true, some true, some true, some true, some true, some true, none, none, none, none, none, some true, none, some true]).map (fun r => (r.1, r.2.2.2)) = some (LV.v (V1.one (At.bool true)), [(decide (x < x'), true), (decide (x < x'), true), (decide (x < x'), true), (decide (x < x'), true), (decide (x < x'), true), (decide (x < x'), true), (decide (x < x'), true), (decide (x < x'), true)]) := by kernel_rfl
theorem rlessR2 (x y : Int) (n : Bool) (x' y' : Int) (n' : Bool) : (runF Try.prog S24 Zl 2000 84 [.v (.agg [.int .u64 x, .int .u64 y, .bool n]), .v (.agg [.int .u64 x', .int .u64 y', .bool n'])] [] 0 [some false, some false, some false, some false, some false, some false, some true, some true, some true, some true, some true, some false, some true, some false]).map (fun r => (r.1, r.2.2.2)) = some (LV.v (V1.one (At.bool (decide (y < y')))), [(decide (x < x'), false), (decide (x < x'), false), (x == x', true), (x == x', true), (x == x', true), (x == x', true), (x == x', true), (x == x', true), (decide (x < x'), false), (decide (x < x'), false), (decide (x < x'), false), (decide (x < x'), false), (decide (x < x'), false), (decide (x < x'), false)]) := by kernel_rfl
theorem rlessR3 (x y : Int) (n : Bool) (x' y' : Int) (n' : Bool) : (runF Try.prog S24 Zl 2000 84 [.v (.agg [.int .u64 x, .int .u64 y, .bool n]), .v (.agg [.int .u64 x', .int .u64 y', .bool n'])] [] 0 [some false, some false, some false, some false, some false, some false, some false, some false, some false, some false, some false, some false, some false, some false]).map (fun r => (r.1, r.2.2.2)) = some (LV.v (V1.one (At.bool false)), [(decide (x < x'), false), (decide (x < x'), false), (x == x', false), (x == x', false), (x == x', false), (x == x', false), (x == x', false), (x == x', false), (decide (x < x'), false), (decide (x < x'), false), (decide (x < x'), false), (decide (x < x'), false), (decide (x < x'), false), (decide (x < x'), false)]) := by kernel_rfl
def rlessT (x y : Int) (n : Bool) (x' y' : Int) (n' : Bool) : Option (LV × List (Bool × Bool)) := 
  bif (decide (x < x')) then some (LV.v (V1.one (At.bool true)), [])
  else 
    bif (x == x') then some (LV.v (V1.one (At.bool (decide (y < y')))), [])
    else some (LV.v (V1.one (At.bool false)), [])
def rlessF : List LV → Option (LV × List (Bool × Bool))
  | [.v (.agg [.int .u64 x, .int .u64 y, .bool n]), .v (.agg [.int .u64 x', .int .u64 y', .bool n'])] => rlessT x y n x' y' n'
  | _ => none
theorem sumrless : SumOK Try.prog 84 (pureSum rlessF) := by
  refine pureSum_run (z := Zl) sound24 (own_of sound24 Try.func84 (by kernel_rfl)) fun args v cs hF hc => ?_
  unfold rlessF at hF
  split at hF
  · rename_i x y n x' y' n'
    unfold rlessT at hF
    rcases bool_cases (decide (x < x')) with h0 | h0
    · rw [cond_t h0] at hF
      cases hF
      exact ⟨2000, [some true, some true, some true, some true, some true, some true, none, none, none, none, none, some true, none, some true], _, rlessR1 x y n x' y' n', ae_cons (h0) (ae_cons (h0) (ae_cons (h0) (ae_cons (h0) (ae_cons (h0) (ae_cons (h0) (ae_cons (h0) (ae_cons (h0) (ae_nil))))))))⟩
    · rw [cond_f h0] at hF
      rcases bool_cases (x == x') with h1 | h1
      · rw [cond_t h1] at hF
        cases hF
        exact ⟨2000, [some false, some false, some false, some false, some false, some false, some true, some true, some true, some true, some true, some false, some true, some false], _, rlessR2 x y n x' y' n', ae_cons (h0) (ae_cons (h0) (ae_cons (h1) (ae_cons (h1) (ae_cons (h1) (ae_cons (h1) (ae_cons (h1) (ae_cons (h1) (ae_cons (h0) (ae_cons (h0) (ae_cons (h0) (ae_cons (h0) (ae_cons (h0) (ae_cons (h0) (ae_nil))))))))))))))⟩
      · rw [cond_f h1] at hF
        cases hF
        exact ⟨2000, [some false, some false, some false, some false, some false, some false, some false, some false, some false, some false, some false, some false, some false, some false], _, rlessR3 x y n x' y' n', ae_cons (h0) (ae_cons (h0) (ae_cons (h1) (ae_cons (h1) (ae_cons (h1) (ae_cons (h1) (ae_cons (h1) (ae_cons (h1) (ae_cons (h0) (ae_cons (h0) (ae_cons (h0) (ae_cons (h0) (ae_cons (h0) (ae_cons (h0) (ae_nil))))))))))))))⟩
  · cases hF

theorem rclampR1 (a lo hi : Int) (hb : Bool) (ty : TypeId) : (runF Try.prog S24 Zl 2000 67 [A0, .v (.one (.int .i64 a)), .v (.one (.int .i64 lo)), .v (.one (.int .i64 hi))] [(0, flag ty hb)] 1 [some true, some true, some true, some true, none, some true, some true, some true, some true, none]).map acc3 = some (LV.v (V1.one (At.int IntKind.i64 lo)), some { ty := ty, fr := (0, 0), es := 0, cells := [At.bool true] }, [(lo != a, true), (lo != a, true), (lo != a, true), (lo != a, true), (decide (a < lo), true), (decide (a < lo), true), (decide (a < lo), true), (decide (a < lo), true)]) := by kernel_rfl
theorem rclampR2 (a lo hi : Int) (hb : Bool) (ty : TypeId) : (runF Try.prog S24 Zl 2000 67 [A0, .v (.one (.int .i64 a)), .v (.one (.int .i64 lo)), .v (.one (.int .i64 hi))] [(0, flag ty hb)] 1 [some true, some true, some true, some true, none, some false, some false, some false, some false, some true]).map acc3 = some (LV.v (V1.one (At.int IntKind.i64 lo)), some { ty := ty, fr := (0, 0), es := 0, cells := [At.bool true] }, [(decide (lo > hi), true), (lo != a, false), (lo != a, false), (lo != a, false), (lo != a, false), (decide (a < lo), true), (decide (a < lo), true), (decide (a < lo), true), (decide (a < lo), true)]) := by kernel_rfl
theorem rclampR3 (a lo hi : Int) (hb : Bool) (ty : TypeId) : (runF Try.prog S24 Zl 2000 67 [A0, .v (.one (.int .i64 a)), .v (.one (.int .i64 lo)), .v (.one (.int .i64 hi))] [(0, flag ty hb)] 1 [some true, some true, some true, some true, none, some false, some false, some false, some false, some false]).map acc3 = some (LV.v (V1.one (At.int IntKind.i64 lo)), some { ty := ty, fr := (0, 0), es := 0, cells := [At.bool hb] }, [(decide (lo > hi), false), (lo != a, false), (lo != a, false), (lo != a, false), (lo != a, false), (decide (a < lo), true), (decide (a < lo), true), (decide (a < lo), true), (decide (a < lo), true)]) := by kernel_rfl
theorem rclampR4 (a lo hi : Int) (hb : Bool) (ty : TypeId) : (runF Try.prog S24 Zl 2000 67 [A0, .v (.one (.int .i64 a)), .v (.one (.int .i64 lo)), .v (.one (.int .i64 hi))] [(0, flag ty hb)] 1 [some false, some false, some false, some false, some true, some true, some true, some true, some true, none]).map acc3 = some (LV.v (V1.one (At.int IntKind.i64 lo)), some { ty := ty, fr := (0, 0), es := 0, cells := [At.bool true] }, [(lo != a, true), (lo != a, true), (lo != a, true), (lo != a, true), (decide (lo > hi), true), (decide (a < lo), false), (decide (a < lo), false), (decide (a < lo), false), (decide (a < lo), false)]) := by kernel_rfl
theorem rclampR5 (a lo hi : Int) (hb : Bool) (ty : TypeId) : (runF Try.prog S24 Zl 2000 67 [A0, .v (.one (.int .i64 a)), .v (.one (.int .i64 lo)), .v (.one (.int .i64 hi))] [(0, flag ty hb)] 1 [some false, some false, some false, some false, some true, some false, some false, some false, some false, some true]).map acc3 = some (LV.v (V1.one (At.int IntKind.i64 lo)), some { ty := ty, fr := (0, 0), es := 0, cells := [At.bool true] }, [(decide (lo > hi), true), (lo != a, false), (lo != a, false), (lo != a, false), (lo != a, false), (decide (lo > hi), true), (decide (a < lo), false), (decide (a < lo), false), (decide (a < lo), false), (decide (a < lo), false)]) := by kernel_rfl
theorem rclampR6 (a lo hi : Int) (hb : Bool) (ty : TypeId) : (runF Try.prog S24 Zl 2000 67 [A0, .v (.one (.int .i64 a)), .v (.one (.int .i64 lo)), .v (.one (.int .i64 hi))] [(0, flag ty hb)] 1 [some false, some false, some false, some false, some false, some true, some true, some true, some true, some true, none]).map acc3 = some (LV.v (V1.one (At.int IntKind.i64 hi)), some { ty := ty, fr := (0, 0), es := 0, cells := [At.bool true] }, [(hi != a, true), (hi != a, true), (hi != a, true), (hi != a, true), (decide (a > hi), true), (decide (lo > hi), false), (decide (a < lo), false), (decide (a < lo), false), (decide (a < lo), false), (decide (a < lo), false)]) := by kernel_rfl
theorem rclampR7 (a lo hi : Int) (hb : Bool) (ty : TypeId) : (runF Try.prog S24 Zl 2000 67 [A0, .v (.one (.int .i64 a)), .v (.one (.int .i64 lo)), .v (.one (.int .i64 hi))] [(0, flag ty hb)] 1 [some false, some false, some false, some false, some false, some true, some false, some false, some false, some false, some false]).map acc3 = some (LV.v (V1.one (At.int IntKind.i64 hi)), some { ty := ty, fr := (0, 0), es := 0, cells := [At.bool hb] }, [(decide (lo > hi), false), (hi != a, false), (hi != a, false), (hi != a, false), (hi != a, false), (decide (a > hi), true), (decide (lo > hi), false), (decide (a < lo), false), (decide (a < lo), false), (decide (a < lo), false), (decide (a < lo), false)]) := by kernel_rfl
theorem rclampR8 (a lo hi : Int) (hb : Bool) (ty : TypeId) : (runF Try.prog S24 Zl 2000 67 [A0, .v (.one (.int .i64 a)), .v (.one (.int .i64 lo)), .v (.one (.int .i64 hi))] [(0, flag ty hb)] 1 [some false, some false, some false, some false, some false, some false, some true, some true, some true, some true, none]).map acc3 = some (LV.v (V1.one (At.int IntKind.i64 a)), some { ty := ty, fr := (0, 0), es := 0, cells := [At.bool true] }, [(a != a, true), (a != a, true), (a != a, true), (a != a, true), (decide (a > hi), false), (decide (lo > hi), false), (decide (a < lo), false), (decide (a < lo), false), (decide (a < lo), false), (decide (a < lo), false)]) := by kernel_rfl
theorem rclampR9 (a lo hi : Int) (hb : Bool) (ty : TypeId) : (runF Try.prog S24 Zl 2000 67 [A0, .v (.one (.int .i64 a)), .v (.one (.int .i64 lo)), .v (.one (.int .i64 hi))] [(0, flag ty hb)] 1 [some false, some false, some false, some false, some false, some false, some false, some false, some false, some false, some false]).map acc3 = some (LV.v (V1.one (At.int IntKind.i64 a)), some { ty := ty, fr := (0, 0), es := 0, cells := [At.bool hb] }, [(decide (lo > hi), false), (a != a, false), (a != a, false), (a != a, false), (a != a, false), (decide (a > hi), false), (decide (lo > hi), false), (decide (a < lo), false), (decide (a < lo), false), (decide (a < lo), false), (decide (a < lo), false)]) := by kernel_rfl
def rclampT (a lo hi : Int) (hb : Bool) : Option (LV × Bool × List (Bool × Bool)) := 
  bif (decide (a < lo)) then 
    bif (lo != a) then some (LV.v (V1.one (At.int IntKind.i64 lo)), (true), [])
    else 
      bif (decide (lo > hi)) then some (LV.v (V1.one (At.int IntKind.i64 lo)), (true), [])
      else some (LV.v (V1.one (At.int IntKind.i64 lo)), (hb), [])
  else 
    bif (decide (lo > hi)) then 
      bif (lo != a) then some (LV.v (V1.one (At.int IntKind.i64 lo)), (true), [])
      else some (LV.v (V1.one (At.int IntKind.i64 lo)), (true), [])
    else 
      bif (decide (a > hi)) then 
        bif (hi != a) then some (LV.v (V1.one (At.int IntKind.i64 hi)), (true), [])
        else some (LV.v (V1.one (At.int IntKind.i64 hi)), (hb), [])
      else 
        bif (a != a) then some (LV.v (V1.one (At.int IntKind.i64 a)), (true), [])
        else some (LV.v (V1.one (At.int IntKind.i64 a)), (hb), [])
def rclampF : List LV → Bool → Option (LV × Bool × List (Bool × Bool))
  | [.v (.one (.int .i64 a)), .v (.one (.int .i64 lo)), .v (.one (.int .i64 hi))], hb => rclampT a lo hi hb
  | _, _ => none
theorem sumrclamp (ty : TypeId) : SumOK Try.prog 67 (accSum ty rclampF) := by
  refine accSum_run (z := Zl) sound24 (own_of sound24 Try.func67 (by kernel_rfl)) fun args hb v h' cs hF hc => ?_
  unfold rclampF at hF
  split at hF
  · rename_i a lo hi
    unfold rclampT at hF
    rcases bool_cases (decide (a < lo)) with h0 | h0
    · rw [cond_t h0] at hF
      rcases bool_cases (lo != a) with h1 | h1
      · rw [cond_t h1] at hF
        cases hF
        exact ⟨rfl, 2000, [some true, some true, some true, some true, none, some true, some true, some true, some true, none], _, rclampR1 a lo hi hb ty, ae_cons (h1) (ae_cons (h1) (ae_cons (h1) (ae_cons (h1) (ae_cons (h0) (ae_cons (h0) (ae_cons (h0) (ae_cons (h0) (ae_nil))))))))⟩
      · rw [cond_f h1] at hF
        rcases bool_cases (decide (lo > hi)) with h2 | h2
        · rw [cond_t h2] at hF
          cases hF
          exact ⟨rfl, 2000, [some true, some true, some true, some true, none, some false, some false, some false, some false, some true], _, rclampR2 a lo hi hb ty, ae_cons (h2) (ae_cons (h1) (ae_cons (h1) (ae_cons (h1) (ae_cons (h1) (ae_cons (h0) (ae_cons (h0) (ae_cons (h0) (ae_cons (h0) (ae_nil)))))))))⟩
        · rw [cond_f h2] at hF
          cases hF
          exact ⟨rfl, 2000, [some true, some true, some true, some true, none, some false, some false, some false, some false, some false], _, rclampR3 a lo hi hb ty, ae_cons (h2) (ae_cons (h1) (ae_cons (h1) (ae_cons (h1) (ae_cons (h1) (ae_cons (h0) (ae_cons (h0) (ae_cons (h0) (ae_cons (h0) (ae_nil)))))))))⟩
    · rw [cond_f h0] at hF
      rcases bool_cases (decide (lo > hi)) with h1 | h1
      · rw [cond_t h1] at hF
        rcases bool_cases (lo != a) with h2 | h2
        · rw [cond_t h2] at hF
          cases hF
          exact ⟨rfl, 2000, [some false, some false, some false, some false, some true, some true, some true, some true, some true, none], _, rclampR4 a lo hi hb ty, ae_cons (h2) (ae_cons (h2) (ae_cons (h2) (ae_cons (h2) (ae_cons (h1) (ae_cons (h0) (ae_cons (h0) (ae_cons (h0) (ae_cons (h0) (ae_nil)))))))))⟩
        · rw [cond_f h2] at hF
          cases hF
          exact ⟨rfl, 2000, [some false, some false, some false, some false, some true, some false, some false, some false, some false, some true], _, rclampR5 a lo hi hb ty, ae_cons (h1) (ae_cons (h2) (ae_cons (h2) (ae_cons (h2) (ae_cons (h2) (ae_cons (h1) (ae_cons (h0) (ae_cons (h0) (ae_cons (h0) (ae_cons (h0) (ae_nil))))))))))⟩
      · rw [cond_f h1] at hF
        rcases bool_cases (decide (a > hi)) with h2 | h2
        · rw [cond_t h2] at hF
          rcases bool_cases (hi != a) with h3 | h3
          · rw [cond_t h3] at hF
            cases hF
            exact ⟨rfl, 2000, [some false, some false, some false, some false, some false, some true, some true, some true, some true, some true, none], _, rclampR6 a lo hi hb ty, ae_cons (h3) (ae_cons (h3) (ae_cons (h3) (ae_cons (h3) (ae_cons (h2) (ae_cons (h1) (ae_cons (h0) (ae_cons (h0) (ae_cons (h0) (ae_cons (h0) (ae_nil))))))))))⟩
          · rw [cond_f h3] at hF
            cases hF
            exact ⟨rfl, 2000, [some false, some false, some false, some false, some false, some true, some false, some false, some false, some false, some false], _, rclampR7 a lo hi hb ty, ae_cons (h1) (ae_cons (h3) (ae_cons (h3) (ae_cons (h3) (ae_cons (h3) (ae_cons (h2) (ae_cons (h1) (ae_cons (h0) (ae_cons (h0) (ae_cons (h0) (ae_cons (h0) (ae_nil)))))))))))⟩
        · rw [cond_f h2] at hF
          rcases bool_cases (a != a) with h3 | h3
          · rw [cond_t h3] at hF
            cases hF
            exact ⟨rfl, 2000, [some false, some false, some false, some false, some false, some false, some true, some true, some true, some true, none], _, rclampR8 a lo hi hb ty, ae_cons (h3) (ae_cons (h3) (ae_cons (h3) (ae_cons (h3) (ae_cons (h2) (ae_cons (h1) (ae_cons (h0) (ae_cons (h0) (ae_cons (h0) (ae_cons (h0) (ae_nil))))))))))⟩
          · rw [cond_f h3] at hF
            cases hF
            exact ⟨rfl, 2000, [some false, some false, some false, some false, some false, some false, some false, some false, some false, some false, some false], _, rclampR9 a lo hi hb ty, ae_cons (h1) (ae_cons (h3) (ae_cons (h3) (ae_cons (h3) (ae_cons (h3) (ae_cons (h2) (ae_cons (h1) (ae_cons (h0) (ae_cons (h0) (ae_cons (h0) (ae_cons (h0) (ae_nil)))))))))))⟩
  · cases hF

def sizeS : List LV → Option (LV × List (Bool × Bool))
  | [.v (.one (.int .i64 a))] => some (.v (.one (.int .u64 (absV a))), [(isI a, true)])
  | _ => none
theorem sumSize : SumOK Try.prog 36 (pureSum sizeS) := by
  refine sumrsize.pure_re fun args v cs hF hc => ?_
  unfold sizeS at hF
  split at hF
  · rename_i a
    cases hF
    simp only [all_tt, isI_iff] at hc
    obtain ⟨⟨h0, h1⟩, -⟩ := hc
    by_cases h : a < 0
    · refine ⟨_, (cond_t (decide_eq_true h)).trans (oneI _ ?_), ae_nil⟩
      rw [absV_neg (by omega)]
      show u64 (w64 (0 - a)) = -a
      unfold u64 w64; omega
    · refine ⟨_, (cond_f (decide_eq_false h)).trans (oneI _ ?_), ae_nil⟩
      rw [absV_pos (by omega)]
      exact u64_in (by omega) (by omega)
  · cases hF

theorem prod_hilo (x y : Int) (hx0 : 0 ≤ x) (hx1 : x < 18446744073709551616) (hy0 : 0 ≤ y) (hy1 : y < 18446744073709551616) :
    u64 (u64 (u64 (x / 4294967296 * (y / 4294967296)) + u64 (u64 (x / 4294967296 * (y % 4294967296)) + u64 (x % 4294967296 * (y % 4294967296)) / 4294967296) / 4294967296) +
      u64 (u64 (x % 4294967296 * (y / 4294967296)) + (u64 (u64 (x / 4294967296 * (y % 4294967296)) + u64 (x % 4294967296 * (y % 4294967296)) / 4294967296)) % 4294967296) / 4294967296) = x * y / 18446744073709551616 ∧
    u64 (u64 (u64 (x % 4294967296 * (y / 4294967296)) + (u64 (u64 (x / 4294967296 * (y % 4294967296)) + u64 (x % 4294967296 * (y % 4294967296)) / 4294967296)) % 4294967296) * 4294967296) =
      (u64 (u64 (x % 4294967296 * (y / 4294967296)) + (u64 (u64 (x / 4294967296 * (y % 4294967296)) + u64 (x % 4294967296 * (y % 4294967296)) / 4294967296)) % 4294967296) % 4294967296) * 4294967296 ∧
    (u64 (u64 (x % 4294967296 * (y / 4294967296)) + (u64 (u64 (x / 4294967296 * (y % 4294967296)) + u64 (x % 4294967296 * (y % 4294967296)) / 4294967296)) % 4294967296) % 4294967296) * 4294967296 + u64 (x % 4294967296 * (y % 4294967296)) % 4294967296 = x * y % 18446744073709551616 := by
  have hb : ∀ a b : Int, 0 ≤ a → a ≤ 4294967295 → 0 ≤ b → b ≤ 4294967295 → 0 ≤ a * b ∧ a * b ≤ 18446744065119617025 := by
    intro a b h1 h2 h3 h4
    refine ⟨Int.mul_nonneg h1 h3, ?_⟩
    calc a * b ≤ 4294967295 * b := Int.mul_le_mul_of_nonneg_right h2 h3
      _ ≤ 4294967295 * 4294967295 := Int.mul_le_mul_of_nonneg_left h4 (by omega)
      _ = 18446744065119617025 := by decide
  have hprod : x * y = (x / 4294967296 * (y / 4294967296)) * 18446744073709551616 + ((x / 4294967296 * (y % 4294967296)) + (x % 4294967296 * (y / 4294967296))) * 4294967296 + x % 4294967296 * (y % 4294967296) := by
    have ex : x = x / 4294967296 * 4294967296 + x % 4294967296 := by omega
    have ey : y = y / 4294967296 * 4294967296 + y % 4294967296 := by omega
    generalize x / 4294967296 = x1 at *
    generalize x % 4294967296 = x0 at *
    generalize y / 4294967296 = y1 at *
    generalize y % 4294967296 = y0 at *
    rw [ex, ey]
    clear hb ex ey hx0 hx1 hy0 hy1
    grind
  have b1 := hb (x / 4294967296) (y / 4294967296) (by omega) (by omega) (by omega) (by omega)
  have b2 := hb (x / 4294967296) (y % 4294967296) (by omega) (by omega) (by omega) (by omega)
  have b3 := hb (x % 4294967296) (y / 4294967296) (by omega) (by omega) (by omega) (by omega)
  have b4 := hb (x % 4294967296) (y % 4294967296) (by omega) (by omega) (by omega) (by omega)
  rw [hprod]
  generalize x / 4294967296 * (y / 4294967296) = p11 at *
  generalize x / 4294967296 * (y % 4294967296) = p10 at *
  generalize x % 4294967296 * (y / 4294967296) = p01 at *
  generalize x % 4294967296 * (y % 4294967296) = p00 at *
  clear hprod hb
  rw [u64_in (x := p11) (by omega) (by omega), u64_in (x := p10) (by omega) (by omega), u64_in (x := p00) (by omega) (by omega), u64_in (x := p01) (by omega) (by omega)]
  rw [u64_in (x := p10 + p00 / 4294967296) (by omega) (by omega)]
  rw [u64_in (x := p01 + (p10 + p00 / 4294967296) % 4294967296) (by omega) (by omega)]
  unfold u64
  refine ⟨by omega, by omega, by omega⟩

def prodS : List LV → Option (LV × List (Bool × Bool))
  | [.v (.one (.int .u64 x)), .v (.one (.int .u64 y))] => some (.tup [.one (.int .u64 (wHi (x * y))), .one (.int .u64 (wLo (x * y)))], [(isU x, true), (isU y, true)])
  | _ => none
theorem tupI {k k' : IntKind} {a a' b b' : Int} (cs : List (Bool × Bool)) (h1 : a = a') (h2 : b = b') :
    some (LV.tup [V1.one (At.int k a), V1.one (At.int k' b)], cs) = some (LV.tup [V1.one (At.int k a'), V1.one (At.int k' b')], cs) := by subst h1; subst h2; rfl
theorem sumProd : SumOK Try.prog 68 (pureSum prodS) := by
  refine sumrprod.pure_re fun args v cs hF hc => ?_
  unfold prodS at hF
  split at hF
  · rename_i x y
    cases hF
    simp only [all_tt, isU_iff] at hc
    obtain ⟨⟨hx0, hx1⟩, ⟨hy0, hy1⟩, -⟩ := hc
    obtain ⟨g1, g2, g3⟩ := prod_hilo x y hx0 hx1 hy0 hy1
    have hu : ∀ t : Int, 0 ≤ u64 t ∧ u64 t < 18446744073709551616 := fun t => by unfold u64; omega
    refine ⟨[], tupI _ ?_ ?_, ae_nil⟩
    · rw [pow2_32u]
      simp only [wr_u]
      rw [land32 x hx0 hx1, land32 y hy0 hy1, land32 _ (hu _).1 (hu _).2]
      exact g1
    · rw [pow2_32u]
      simp only [wr_u]
      rw [land32 x hx0 hx1, land32 y hy0 hy1, land32 _ (hu _).1 (hu _).2, land32 _ (hu _).1 (hu _).2, g2]
      show _ = x * y % 18446744073709551616
      rw [← g3]
      generalize u64 (u64 (x % 4294967296 * (y / 4294967296)) + u64 (u64 (x / 4294967296 * (y % 4294967296)) + u64 (x % 4294967296 * (y % 4294967296)) / 4294967296) % 4294967296) = s at *
      generalize u64 (x % 4294967296 * (y % 4294967296)) = t at *
      have hp : pow2 32 = 4294967296 := rfl
      have := (ior_add (s % 4294967296) (t % 4294967296) 32 (by omega) (by omega) (by rw [hp]; omega) (by rw [hp]; omega)).1
      rw [hp] at this
      exact this
  · cases hF

def rlessS : List LV → Option (LV × List (Bool × Bool))
  | [.v (.agg [.int .u64 x, .int .u64 y, .bool n]), .v (.agg [.int .u64 x', .int .u64 y', .bool n'])] => some (.v (.one (.bool (decide (wVal x y < wVal x' y')))), [(isU y, true), (isU y', true)])
  | _ => none
theorem sumRless : SumOK Try.prog 84 (pureSum rlessS) := by
  refine sumrless.pure_re fun args v cs hF hc => ?_
  unfold rlessS at hF
  split at hF
  · rename_i x y n x' y' n'
    cases hF
    simp only [all_tt, isU_iff] at hc
    obtain ⟨⟨hy0, hy1⟩, ⟨hy0', hy1'⟩, -⟩ := hc
    by_cases h1 : x < x'
    · refine ⟨_, (cond_t (decide_eq_true h1)).trans (oneB _ ?_), ae_nil⟩
      symm; rw [decide_eq_true_eq]; unfold wVal; omega
    · by_cases h2 : x = x'
      · refine ⟨_, (cond_f (decide_eq_false h1)).trans ((cond_t (by simpa using h2)).trans (oneB _ ?_)), ae_nil⟩
        rw [decide_eq_decide]; subst h2; unfold wVal; omega
      · refine ⟨_, (cond_f (decide_eq_false h1)).trans ((cond_f (by simpa using h2)).trans (oneB _ ?_)), ae_nil⟩
        symm; rw [decide_eq_false_iff_not]; unfold wVal; omega
  · cases hF

theorem accR {x x' : Int} {b b' : Bool} (h1 : x = x') (h2 : b = b') : some (LV.v (V1.one (At.int .i64 x)), b, ([] : List (Bool × Bool))) = some (LV.v (V1.one (At.int .i64 x')), b', []) := by subst h1; subst h2; rfl
theorem sumRclamp (ty : TypeId) : SumOK Try.prog 67 (accSum ty clampF) := by
  refine (sumrclamp ty).acc_re fun args hb v h' cs hF hc => ?_
  unfold clampF at hF
  split at hF
  · rename_i a lo hi
    cases hF
    refine ⟨[], ?_, ae_nil⟩
    show rclampT a lo hi hb = some (I (clampV a lo hi), hb || clampH a lo hi, [])
    unfold rclampT clampV clampH I
    have e1 : (lo != a) = !decide (lo = a) := rfl
    have e2 : (hi != a) = !decide (hi = a) := rfl
    have e3 : (a != a) = !decide (a = a) := rfl
    rw [e1]
    try rw [e2]
    try rw [e3]
    by_cases h1 : a < lo <;> by_cases h2 : lo > hi <;> by_cases h3 : a > hi <;> by_cases h4 : lo = a <;> by_cases h5 : hi = a <;> simp [h1, h2, h3, h4, h5] <;> (try omega) <;> (try (subst h4; simp_all)) <;> (try (subst h5; simp_all)) <;> (try omega)
  · cases hF

noncomputable def R1S : FuncId → Option SumK := more (more (more (more S24 36 (pureSum sizeS)) 68 (pureSum prodS)) 84 (pureSum rlessS)) 67 (accAny clampF)
theorem soundR1 : Sound Try.prog R1S := (((sound24.more sumSize).more sumProd).more sumRless).more (accAny_ok sumRclamp)
end Go.Proofs.Ytdkmiliehlhmbaa

/- The second reference's sums and products as signs and sizes, its clamping: runs (printed), and what they come to. -/
namespace Go.Proofs.Ytdkmiliehlhmbaa
open Go.Lr
set_option linter.unusedVariables false
set_option linter.unusedSimpArgs false

theorem rmulR1 (a b : Int) : (runF Try.prog R1S Zl 2000 32 [.v (.one (.int .i64 a)), .v (.one (.int .i64 b))] [] 0 []).map (fun r => (r.1, r.2.2.2)) = some (LV.v (V1.agg [At.int IntKind.u64 (wHi (absV a * absV b)), At.int IntKind.u64 (wLo (absV a * absV b)), At.bool !decide (a < 0) == decide (b < 0)]), [(isU (absV a), true), (isU (absV b), true), (isI b, true), (isI a, true)]) := by kernel_rfl
def rmulT (a b : Int) : Option (LV × List (Bool × Bool)) := some (LV.v (V1.agg [At.int IntKind.u64 (wHi (absV a * absV b)), At.int IntKind.u64 (wLo (absV a * absV b)), At.bool !decide (a < 0) == decide (b < 0)]), [(isU (absV a), true), (isU (absV b), true), (isI b, true), (isI a, true)])
def rmulF : List LV → Option (LV × List (Bool × Bool))
  | [.v (.one (.int .i64 a)), .v (.one (.int .i64 b))] => rmulT a b
  | _ => none
theorem sumrmul : SumOK Try.prog 32 (pureSum rmulF) := by
  refine pureSum_run (z := Zl) soundR1 (own_of soundR1 Try.func32 (by kernel_rfl)) fun args v cs hF hc => ?_
  unfold rmulF at hF
  split at hF
  · rename_i a b
    unfold rmulT at hF
    cases hF
    exact ⟨2000, [], _, rmulR1 a b, ae_cons (hd_of (hc)) (ae_cons (hd_of (tl_of (hc))) (ae_cons (hd_of (tl_of (tl_of (hc)))) (ae_cons (hd_of (tl_of (tl_of (tl_of (hc))))) (ae_nil))))⟩
  · cases hF

theorem raddR1 (x y : Int) (n : Bool) (x' y' : Int) (n' : Bool) : (runF Try.prog R1S Zl 2000 69 [.v (.agg [.int .u64 x, .int .u64 y, .bool n]), .v (.agg [.int .u64 x', .int .u64 y', .bool n'])] [] 0 [some true, some true]).map (fun r => (r.1, r.2.2.2)) = some (LV.v (V1.agg [At.int IntKind.u64 (wr IntKind.u64 (wr IntKind.u64 (x + x') + 1)), At.int IntKind.u64 (wr IntKind.u64 (y + y')), At.bool n]), [(decide (wr IntKind.u64 (y + y') < y), true), (n == n', true)]) := by kernel_rfl
theorem raddR2 (x y : Int) (n : Bool) (x' y' : Int) (n' : Bool) : (runF Try.prog R1S Zl 2000 69 [.v (.agg [.int .u64 x, .int .u64 y, .bool n]), .v (.agg [.int .u64 x', .int .u64 y', .bool n'])] [] 0 [some true, some false]).map (fun r => (r.1, r.2.2.2)) = some (LV.v (V1.agg [At.int IntKind.u64 (wr IntKind.u64 (x + x')), At.int IntKind.u64 (wr IntKind.u64 (y + y')), At.bool n]), [(decide (wr IntKind.u64 (y + y') < y), false), (n == n', true)]) := by kernel_rfl
theorem raddR3 (x y : Int) (n : Bool) (x' y' : Int) (n' : Bool) : (runF Try.prog R1S Zl 2000 69 [.v (.agg [.int .u64 x, .int .u64 y, .bool n]), .v (.agg [.int .u64 x', .int .u64 y', .bool n'])] [] 0 [some false, some true, some true]).map (fun r => (r.1, r.2.2.2)) = some (LV.v (V1.agg [At.int IntKind.u64 (wr IntKind.u64 (wr IntKind.u64 (x' - x) - 1)), At.int IntKind.u64 (wr IntKind.u64 (y' - y)), At.bool n']), [(decide (y' < y), true), (decide (wVal x y < wVal x' y'), true), (isU y, true), (isU y', true), (n == n', false)]) := by kernel_rfl
theorem raddR4 (x y : Int) (n : Bool) (x' y' : Int) (n' : Bool) : (runF Try.prog R1S Zl 2000 69 [.v (.agg [.int .u64 x, .int .u64 y, .bool n]), .v (.agg [.int .u64 x', .int .u64 y', .bool n'])] [] 0 [some false, some true, some false]).map (fun r => (r.1, r.2.2.2)) = some (LV.v (V1.agg [At.int IntKind.u64 (wr IntKind.u64 (x' - x)), At.int IntKind.u64 (wr IntKind.u64 (y' - y)), At.bool n']), [(decide (y' < y), false), (decide (wVal x y < wVal x' y'), true), (isU y, true), (isU y', true), (n == n', false)]) := by kernel_rfl
theorem raddR5 (x y : Int) (n : Bool) (x' y' : Int) (n' : Bool) : (runF Try.prog R1S Zl 2000 69 [.v (.agg [.int .u64 x, .int .u64 y, .bool n]), .v (.agg [.int .u64 x', .int .u64 y', .bool n'])] [] 0 [some false, some false, some true]).map (fun r => (r.1, r.2.2.2)) = some (LV.v (V1.agg [At.int IntKind.u64 (wr IntKind.u64 (wr IntKind.u64 (x - x') - 1)), At.int IntKind.u64 (wr IntKind.u64 (y - y')), At.bool n]), [(decide (y < y'), true), (decide (wVal x y < wVal x' y'), false), (isU y, true), (isU y', true), (n == n', false)]) := by kernel_rfl
theorem raddR6 (x y : Int) (n : Bool) (x' y' : Int) (n' : Bool) : (runF Try.prog R1S Zl 2000 69 [.v (.agg [.int .u64 x, .int .u64 y, .bool n]), .v (.agg [.int .u64 x', .int .u64 y', .bool n'])] [] 0 [some false, some false, some false]).map (fun r => (r.1, r.2.2.2)) = some (LV.v (V1.agg [At.int IntKind.u64 (wr IntKind.u64 (x - x')), At.int IntKind.u64 (wr IntKind.u64 (y - y')), At.bool n]), [(decide (y < y'), false), (decide (wVal x y < wVal x' y'), false), (isU y, true), (isU y', true), (n == n', false)]) := by kernel_rfl
def raddT (x y : Int) (n : Bool) (x' y' : Int) (n' : Bool) : Option (LV × List (Bool × Bool)) := 
  bif (n == n') then 
    bif (decide (wr IntKind.u64 (y + y') < y)) then some (LV.v (V1.agg [At.int IntKind.u64 (wr IntKind.u64 (wr IntKind.u64 (x + x') + 1)), At.int IntKind.u64 (wr IntKind.u64 (y + y')), At.bool n]), [])
    else some (LV.v (V1.agg [At.int IntKind.u64 (wr IntKind.u64 (x + x')), At.int IntKind.u64 (wr IntKind.u64 (y + y')), At.bool n]), [])
  else 
    bif (decide (wVal x y < wVal x' y')) then 
      bif (decide (y' < y)) then some (LV.v (V1.agg [At.int IntKind.u64 (wr IntKind.u64 (wr IntKind.u64 (x' - x) - 1)), At.int IntKind.u64 (wr IntKind.u64 (y' - y)), At.bool n']), [(isU y, true), (isU y', true)])
      else some (LV.v (V1.agg [At.int IntKind.u64 (wr IntKind.u64 (x' - x)), At.int IntKind.u64 (wr IntKind.u64 (y' - y)), At.bool n']), [(isU y, true), (isU y', true)])
    else 
      bif (decide (y < y')) then some (LV.v (V1.agg [At.int IntKind.u64 (wr IntKind.u64 (wr IntKind.u64 (x - x') - 1)), At.int IntKind.u64 (wr IntKind.u64 (y - y')), At.bool n]), [(isU y, true), (isU y', true)])
      else some (LV.v (V1.agg [At.int IntKind.u64 (wr IntKind.u64 (x - x')), At.int IntKind.u64 (wr IntKind.u64 (y - y')), At.bool n]), [(isU y, true), (isU y', true)])
def raddF : List LV → Option (LV × List (Bool × Bool))
  | [.v (.agg [.int .u64 x, .int .u64 y, .bool n]), .v (.agg [.int .u64 x', .int .u64 y', .bool n'])] => raddT x y n x' y' n'
  | _ => none
theorem sumradd : SumOK Try.prog 69 (pureSum raddF) := by
  refine pureSum_run (z := Zl) soundR1 (own_of soundR1 Try.func69 (by kernel_rfl)) fun args v cs hF hc => ?_
  unfold raddF at hF
  split at hF
  · rename_i x y n x' y' n'
    unfold raddT at hF
    rcases bool_cases (n == n') with h0 | h0
    · rw [cond_t h0] at hF
      rcases bool_cases (decide (wr IntKind.u64 (y + y') < y)) with h1 | h1
      · rw [cond_t h1] at hF
        cases hF
        exact ⟨2000, [some true, some true], _, raddR1 x y n x' y' n', ae_cons (h1) (ae_cons (h0) (ae_nil))⟩
      · rw [cond_f h1] at hF
        cases hF
        exact ⟨2000, [some true, some false], _, raddR2 x y n x' y' n', ae_cons (h1) (ae_cons (h0) (ae_nil))⟩
    · rw [cond_f h0] at hF
      rcases bool_cases (decide (wVal x y < wVal x' y')) with h1 | h1
      · rw [cond_t h1] at hF
        rcases bool_cases (decide (y' < y)) with h2 | h2
        · rw [cond_t h2] at hF
          cases hF
          exact ⟨2000, [some false, some true, some true], _, raddR3 x y n x' y' n', ae_cons (h2) (ae_cons (h1) (ae_cons (hd_of (hc)) (ae_cons (hd_of (tl_of (hc))) (ae_cons (h0) (ae_nil)))))⟩
        · rw [cond_f h2] at hF
          cases hF
          exact ⟨2000, [some false, some true, some false], _, raddR4 x y n x' y' n', ae_cons (h2) (ae_cons (h1) (ae_cons (hd_of (hc)) (ae_cons (hd_of (tl_of (hc))) (ae_cons (h0) (ae_nil)))))⟩
      · rw [cond_f h1] at hF
        rcases bool_cases (decide (y < y')) with h2 | h2
        · rw [cond_t h2] at hF
          cases hF
          exact ⟨2000, [some false, some false, some true], _, raddR5 x y n x' y' n', ae_cons (h2) (ae_cons (h1) (ae_cons (hd_of (hc)) (ae_cons (hd_of (tl_of (hc))) (ae_cons (h0) (ae_nil)))))⟩
        · rw [cond_f h2] at hF
          cases hF
          exact ⟨2000, [some false, some false, some false], _, raddR6 x y n x' y' n', ae_cons (h2) (ae_cons (h1) (ae_cons (hd_of (hc)) (ae_cons (hd_of (tl_of (hc))) (ae_cons (h0) (ae_nil)))))⟩
  · cases hF

theorem rsatR1 (a : Int) (hb : Bool) (ty : TypeId) : (runF Try.prog R1S Zl 2000 33 [A0, .v (.one (.int .i64 a))] [(0, flag ty hb)] 1 []).map acc3 = some (LV.v (V1.one (At.int IntKind.i64 (clampV a (-1152921504606846976) 1152921504606846976))), some { ty := ty, fr := (0, 0), es := 0, cells := [At.bool (hb || clampH a (-1152921504606846976) 1152921504606846976)] }, []) := by kernel_rfl
def rsatT (a : Int) (hb : Bool) : Option (LV × Bool × List (Bool × Bool)) := some (LV.v (V1.one (At.int IntKind.i64 (clampV a (-1152921504606846976) 1152921504606846976))), (hb || clampH a (-1152921504606846976) 1152921504606846976), [])
def rsatF : List LV → Bool → Option (LV × Bool × List (Bool × Bool))
  | [.v (.one (.int .i64 a))], hb => rsatT a hb
  | _, _ => none
theorem sumrsat (ty : TypeId) : SumOK Try.prog 33 (accSum ty rsatF) := by
  refine accSum_run (z := Zl) soundR1 (own_of soundR1 Try.func33 (by kernel_rfl)) fun args hb v h' cs hF hc => ?_
  unfold rsatF at hF
  split at hF
  · rename_i a
    unfold rsatT at hF
    cases hF
    exact ⟨rfl, 2000, [], _, rsatR1 a hb ty, ae_nil⟩
  · cases hF

theorem rendR1 (x y : Int) (n : Bool) (hb : Bool) (ty : TypeId) : (runF Try.prog R1S Zl 2000 34 [A0, .v (.agg [.int .u64 x, .int .u64 y, .bool n])] [(0, flag ty hb)] 1 [some true, some true, some true, some true, none, some true]).map acc3 = some (LV.v (V1.one (At.int IntKind.i64 (wr IntKind.i64 (0 - 1152921504606846976)))), some { ty := ty, fr := (0, 0), es := 0, cells := [At.bool true] }, [(n, true), (decide (x > 0), true), (decide (x > 0), true), (decide (x > 0), true), (decide (x > 0), true)]) := by kernel_rfl
theorem rendR2 (x y : Int) (n : Bool) (hb : Bool) (ty : TypeId) : (runF Try.prog R1S Zl 2000 34 [A0, .v (.agg [.int .u64 x, .int .u64 y, .bool n])] [(0, flag ty hb)] 1 [some true, some true, some true, some true, none, some false]).map acc3 = some (LV.v (V1.one (At.int IntKind.i64 1152921504606846976)), some { ty := ty, fr := (0, 0), es := 0, cells := [At.bool true] }, [(n, false), (decide (x > 0), true), (decide (x > 0), true), (decide (x > 0), true), (decide (x > 0), true)]) := by kernel_rfl
theorem rendR3 (x y : Int) (n : Bool) (hb : Bool) (ty : TypeId) : (runF Try.prog R1S Zl 2000 34 [A0, .v (.agg [.int .u64 x, .int .u64 y, .bool n])] [(0, flag ty hb)] 1 [some false, some false, some false, some false, some true, some true]).map acc3 = some (LV.v (V1.one (At.int IntKind.i64 (wr IntKind.i64 (0 - 1152921504606846976)))), some { ty := ty, fr := (0, 0), es := 0, cells := [At.bool true] }, [(n, true), (decide (y > 1152921504606846976), true), (decide (x > 0), false), (decide (x > 0), false), (decide (x > 0), false), (decide (x > 0), false)]) := by kernel_rfl
theorem rendR4 (x y : Int) (n : Bool) (hb : Bool) (ty : TypeId) : (runF Try.prog R1S Zl 2000 34 [A0, .v (.agg [.int .u64 x, .int .u64 y, .bool n])] [(0, flag ty hb)] 1 [some false, some false, some false, some false, some true, some false]).map acc3 = some (LV.v (V1.one (At.int IntKind.i64 1152921504606846976)), some { ty := ty, fr := (0, 0), es := 0, cells := [At.bool true] }, [(n, false), (decide (y > 1152921504606846976), true), (decide (x > 0), false), (decide (x > 0), false), (decide (x > 0), false), (decide (x > 0), false)]) := by kernel_rfl
theorem rendR5 (x y : Int) (n : Bool) (hb : Bool) (ty : TypeId) : (runF Try.prog R1S Zl 2000 34 [A0, .v (.agg [.int .u64 x, .int .u64 y, .bool n])] [(0, flag ty hb)] 1 [some false, some false, some false, some false, some false, some true]).map acc3 = some (LV.v (V1.one (At.int IntKind.i64 (wr IntKind.i64 (0 - wr IntKind.i64 y)))), some { ty := ty, fr := (0, 0), es := 0, cells := [At.bool hb] }, [(n, true), (decide (y > 1152921504606846976), false), (decide (x > 0), false), (decide (x > 0), false), (decide (x > 0), false), (decide (x > 0), false)]) := by kernel_rfl
theorem rendR6 (x y : Int) (n : Bool) (hb : Bool) (ty : TypeId) : (runF Try.prog R1S Zl 2000 34 [A0, .v (.agg [.int .u64 x, .int .u64 y, .bool n])] [(0, flag ty hb)] 1 [some false, some false, some false, some false, some false, some false]).map acc3 = some (LV.v (V1.one (At.int IntKind.i64 (wr IntKind.i64 y))), some { ty := ty, fr := (0, 0), es := 0, cells := [At.bool hb] }, [(n, false), (decide (y > 1152921504606846976), false), (decide (x > 0), false), (decide (x > 0), false), (decide (x > 0), false), (decide (x > 0), false)]) := by kernel_rfl
def rendT (x y : Int) (n : Bool) (hb : Bool) : Option (LV × Bool × List (Bool × Bool)) := 
  bif (decide (x > 0)) then 
    bif (n) then some (LV.v (V1.one (At.int IntKind.i64 (wr IntKind.i64 (0 - 1152921504606846976)))), (true), [])
    else some (LV.v (V1.one (At.int IntKind.i64 1152921504606846976)), (true), [])
  else 
    bif (decide (y > 1152921504606846976)) then 
      bif (n) then some (LV.v (V1.one (At.int IntKind.i64 (wr IntKind.i64 (0 - 1152921504606846976)))), (true), [])
      else some (LV.v (V1.one (At.int IntKind.i64 1152921504606846976)), (true), [])
    else 
      bif (n) then some (LV.v (V1.one (At.int IntKind.i64 (wr IntKind.i64 (0 - wr IntKind.i64 y)))), (hb), [])
      else some (LV.v (V1.one (At.int IntKind.i64 (wr IntKind.i64 y))), (hb), [])
def rendF : List LV → Bool → Option (LV × Bool × List (Bool × Bool))
  | [.v (.agg [.int .u64 x, .int .u64 y, .bool n])], hb => rendT x y n hb
  | _, _ => none
theorem sumrend (ty : TypeId) : SumOK Try.prog 34 (accSum ty rendF) := by
  refine accSum_run (z := Zl) soundR1 (own_of soundR1 Try.func34 (by kernel_rfl)) fun args hb v h' cs hF hc => ?_
  unfold rendF at hF
  split at hF
  · rename_i x y n
    unfold rendT at hF
    rcases bool_cases (decide (x > 0)) with h0 | h0
    · rw [cond_t h0] at hF
      rcases bool_cases (n) with h1 | h1
      · rw [cond_t h1] at hF
        cases hF
        exact ⟨rfl, 2000, [some true, some true, some true, some true, none, some true], _, rendR1 x y n hb ty, ae_cons (h1) (ae_cons (h0) (ae_cons (h0) (ae_cons (h0) (ae_cons (h0) (ae_nil)))))⟩
      · rw [cond_f h1] at hF
        cases hF
        exact ⟨rfl, 2000, [some true, some true, some true, some true, none, some false], _, rendR2 x y n hb ty, ae_cons (h1) (ae_cons (h0) (ae_cons (h0) (ae_cons (h0) (ae_cons (h0) (ae_nil)))))⟩
    · rw [cond_f h0] at hF
      rcases bool_cases (decide (y > 1152921504606846976)) with h1 | h1
      · rw [cond_t h1] at hF
        rcases bool_cases (n) with h2 | h2
        · rw [cond_t h2] at hF
          cases hF
          exact ⟨rfl, 2000, [some false, some false, some false, some false, some true, some true], _, rendR3 x y n hb ty, ae_cons (h2) (ae_cons (h1) (ae_cons (h0) (ae_cons (h0) (ae_cons (h0) (ae_cons (h0) (ae_nil))))))⟩
        · rw [cond_f h2] at hF
          cases hF
          exact ⟨rfl, 2000, [some false, some false, some false, some false, some true, some false], _, rendR4 x y n hb ty, ae_cons (h2) (ae_cons (h1) (ae_cons (h0) (ae_cons (h0) (ae_cons (h0) (ae_cons (h0) (ae_nil))))))⟩
      · rw [cond_f h1] at hF
        rcases bool_cases (n) with h2 | h2
        · rw [cond_t h2] at hF
          cases hF
          exact ⟨rfl, 2000, [some false, some false, some false, some false, some false, some true], _, rendR5 x y n hb ty, ae_cons (h2) (ae_cons (h1) (ae_cons (h0) (ae_cons (h0) (ae_cons (h0) (ae_cons (h0) (ae_nil))))))⟩
        · rw [cond_f h2] at hF
          cases hF
          exact ⟨rfl, 2000, [some false, some false, some false, some false, some false, some false], _, rendR6 x y n hb ty, ae_cons (h2) (ae_cons (h1) (ae_cons (h0) (ae_cons (h0) (ae_cons (h0) (ae_cons (h0) (ae_nil))))))⟩
  · cases hF

/-- A size and a sign. -/
def RB (m : Int) (n : Bool) : V1 := .agg [.int .u64 (wHi m), .int .u64 (wLo m), .bool n]
theorem isU_abs {a : Int} (h0 : -9223372036854775808 ≤ a) (h1 : a < 9223372036854775808) : isU (absV a) = true := by
  rw [isU_iff]; unfold absV; split <;> omega
def rmulS : List LV → Option (LV × List (Bool × Bool))
  | [.v (.one (.int .i64 a)), .v (.one (.int .i64 b))] => some (.v (RB (absV a * absV b) (!(decide (a < 0) == decide (b < 0)))), [(isI a, true), (isI b, true)])
  | _ => none
theorem sumRmul : SumOK Try.prog 32 (pureSum rmulS) := by
  refine sumrmul.pure_re fun args v cs hF hc => ?_
  unfold rmulS at hF
  split at hF
  · rename_i a b
    cases hF
    simp only [all_tt, isI_iff] at hc
    obtain ⟨⟨a0, a1⟩, ⟨b0, b1⟩, -⟩ := hc
    refine ⟨_, rfl, ?_⟩
    simp only [all_tt, isI_iff, isU_abs a0 a1, isU_abs b0 b1]
    exact ⟨trivial, trivial, ⟨b0, b1⟩, ⟨a0, a1⟩, ae_nil⟩
  · cases hF

/-- The sum of two. -/
def addM (m : Int) (n : Bool) (m' : Int) (n' : Bool) : Int := if n = n' then m + m' else if m < m' then m' - m else m - m'
def addN (m : Int) (n : Bool) (m' : Int) (n' : Bool) : Bool := if n = n' then n else if m < m' then n' else n
def raddS : List LV → Option (LV × List (Bool × Bool))
  | [.v (.agg [.int .u64 x, .int .u64 y, .bool n]), .v (.agg [.int .u64 x', .int .u64 y', .bool n'])] =>
    some (.v (RB (addM (wVal x y) n (wVal x' y') n') (addN (wVal x y) n (wVal x' y') n')), [(isU x, true), (isU y, true), (isU x', true), (isU y', true), (decide (wVal x y + wVal x' y' < 340282366920938463463374607431768211456), true)])
  | _ => none
theorem agg3 {k k' : IntKind} {a a' b b' : Int} {c c' : Bool} (cs : List (Bool × Bool)) (h1 : a = a') (h2 : b = b') (h3 : c = c') :
    some (LV.v (V1.agg [At.int k a, At.int k' b, At.bool c]), cs) = some (LV.v (V1.agg [At.int k a', At.int k' b', At.bool c']), cs) := by subst h1; subst h2; subst h3; rfl
theorem sumRadd : SumOK Try.prog 69 (pureSum raddS) := by
  refine sumradd.pure_re fun args v cs hF hc => ?_
  unfold raddS at hF
  split at hF
  · rename_i x y n x' y' n'
    cases hF
    simp only [all_tt, isU_iff, decide_eq_true_eq] at hc
    obtain ⟨⟨x0, x1⟩, ⟨y0, y1⟩, ⟨x0', x1'⟩, ⟨y0', y1'⟩, hs, -⟩ := hc
    show ∃ cs', raddT x y n x' y' n' = _ ∧ _
    have hyy : ∀ c ∈ [(isU y, true), (isU y', true)], c.1 = c.2 := by simp only [all_tt, isU_iff]; exact ⟨⟨y0, y1⟩, ⟨y0', y1'⟩, ae_nil⟩
    unfold raddT addM addN
    by_cases hn : n = n'
    · rw [if_pos hn, if_pos hn, cond_t (by simpa using hn)]
      by_cases hc : wr IntKind.u64 (y + y') < y
      · rw [cond_t (decide_eq_true hc)]
        refine ⟨_, agg3 _ ?_ ?_ rfl, ae_nil⟩
        · simp only [wr_u] at hc ⊢; unfold u64 at *; unfold wHi wVal at *; omega
        · simp only [wr_u] at hc ⊢; unfold u64 at *; unfold wLo wVal at *; omega
      · rw [cond_f (decide_eq_false hc)]
        refine ⟨_, agg3 _ ?_ ?_ rfl, ae_nil⟩
        · simp only [wr_u] at hc ⊢; unfold u64 at *; unfold wHi wVal at *; omega
        · simp only [wr_u] at hc ⊢; unfold u64 at *; unfold wLo wVal at *; omega
    · rw [if_neg hn, if_neg hn, cond_f (by simpa using hn)]
      by_cases hl : wVal x y < wVal x' y'
      · rw [if_pos hl, if_pos hl, cond_t (decide_eq_true hl)]
        by_cases hc : y' < y
        · rw [cond_t (decide_eq_true hc)]
          refine ⟨_, agg3 _ ?_ ?_ rfl, hyy⟩
          · simp only [wr_u]; unfold u64 wHi; unfold wVal at *; omega
          · simp only [wr_u]; unfold u64 wLo; unfold wVal at *; omega
        · rw [cond_f (decide_eq_false hc)]
          refine ⟨_, agg3 _ ?_ ?_ rfl, hyy⟩
          · simp only [wr_u]; unfold u64 wHi; unfold wVal at *; omega
          · simp only [wr_u]; unfold u64 wLo; unfold wVal at *; omega
      · rw [if_neg hl, if_neg hl, cond_f (decide_eq_false hl)]
        by_cases hc : y < y'
        · rw [cond_t (decide_eq_true hc)]
          refine ⟨_, agg3 _ ?_ ?_ rfl, hyy⟩
          · simp only [wr_u]; unfold u64 wHi; unfold wVal at *; omega
          · simp only [wr_u]; unfold u64 wLo; unfold wVal at *; omega
        · rw [cond_f (decide_eq_false hc)]
          refine ⟨_, agg3 _ ?_ ?_ rfl, hyy⟩
          · simp only [wr_u]; unfold u64 wHi; unfold wVal at *; omega
          · simp only [wr_u]; unfold u64 wLo; unfold wVal at *; omega
  · cases hF

theorem sumRsat (ty : TypeId) : SumOK Try.prog 33 (accSum ty satF) := by
  refine (sumrsat ty).acc_re fun args hb v h' cs hF hc => ?_
  unfold satF at hF
  split at hF
  · cases hF
    exact ⟨[], rfl, ae_nil⟩
  · cases hF

def rendS : List LV → Bool → Option (LV × Bool × List (Bool × Bool))
  | [.v (.agg [.int .u64 x, .int .u64 y, .bool n])], hb => some (I (satV (sgn n (wVal x y))), hb || satH (sgn n (wVal x y)), [(isU x, true), (isU y, true)])
  | _, _ => none
theorem sumR2end (ty : TypeId) : SumOK Try.prog 34 (accSum ty rendS) := by
  refine (sumrend ty).acc_re fun args hb v h' cs hF hc => ?_
  unfold rendS at hF
  split at hF
  · rename_i x y n
    cases hF
    simp only [all_tt, isU_iff] at hc
    obtain ⟨⟨x0, x1⟩, ⟨y0, y1⟩, -⟩ := hc
    refine ⟨[], ?_, ae_nil⟩
    show rendT x y n hb = _
    have hM : wr IntKind.i64 (0 - 1152921504606846976) = -1152921504606846976 := by decide
    unfold rendT sgn I
    rw [hM]
    by_cases h1 : x > 0
    · rw [cond_t (decide_eq_true h1)]
      have : wVal x y > 1152921504606846976 := by unfold wVal; omega
      cases n with
      | true => simp only [cond_true, if_true]; rw [sat_lo (a := -wVal x y) (by omega), satH_out (a := -wVal x y) (by omega), Bool.or_true]
      | false => simp only [cond_false, Bool.false_eq_true, if_false]; rw [sat_hi (a := wVal x y) (by omega), satH_out (a := wVal x y) (by omega), Bool.or_true]
    · rw [cond_f (decide_eq_false h1)]
      have h0 : x = 0 := by omega
      have hv : wVal x y = y := by unfold wVal; omega
      rw [hv]
      by_cases h2 : y > 1152921504606846976
      · rw [cond_t (decide_eq_true h2)]
        cases n with
        | true => simp only [cond_true, if_true]; rw [sat_lo (a := -y) (by omega), satH_out (a := -y) (by omega), Bool.or_true]
        | false => simp only [cond_false, Bool.false_eq_true, if_false]; rw [sat_hi (a := y) (by omega), satH_out (a := y) (by omega), Bool.or_true]
      · rw [cond_f (decide_eq_false h2)]
        have e1 : wr IntKind.i64 y = y := w64_in (by omega) (by omega)
        have e2 : wr IntKind.i64 (0 - y) = -y := by have := w64_in (x := 0 - y) (by omega) (by omega); rw [wr_i, this]; omega
        rw [e1, e2]
        cases n with
        | true => simp only [cond_true, if_true]; rw [sat_in (a := -y) (by omega) (by omega), satH_in (a := -y) (by omega) (by omega), Bool.or_false]
        | false => simp only [cond_false, Bool.false_eq_true, if_false]; rw [sat_in (a := y) (by omega) (by omega), satH_in (a := y) (by omega) (by omega), Bool.or_false]
  · cases hF

noncomputable def R2S : FuncId → Option SumK := more (more (more (more R1S 32 (pureSum rmulS)) 69 (pureSum raddS)) 33 (accAny satF)) 34 (accAny rendS)
theorem soundR2 : Sound Try.prog R2S := (((soundR1.more sumRmul).more sumRadd).more (accAny_ok sumRsat)).more (accAny_ok sumR2end)
end Go.Proofs.Ytdkmiliehlhmbaa

/- The second reference's shifting by 30, sizes, sums of two: runs (printed), and what they come to. -/
namespace Go.Proofs.Ytdkmiliehlhmbaa
open Go.Lr
set_option linter.unusedVariables false
set_option linter.unusedSimpArgs false

theorem rshiftR1 (x y : Int) (n : Bool) : (runF Try.prog R2S Zl 2000 76 [.v (.agg [.int .u64 x, .int .u64 y, .bool n]), .v (.one (.int .i64 30))] [] 0 [none, none, none]).map (fun r => (r.1, r.2.2.2)) = some (LV.v (V1.agg [At.int IntKind.u64 (wHi (addM (wVal x y) n (wVal 0 (wr IntKind.u64 (1 * pow2 (min (wr IntKind.u64 (wr IntKind.i64 (30 - 1))).toNat IntKind.u64.bits)))) n) / pow2 (min (wr IntKind.u64 30).toNat IntKind.u64.bits)), At.int IntKind.u64 (Int.ofNat ((u64 (wLo (addM (wVal x y) n (wVal 0 (wr IntKind.u64 (1 * pow2 (min (wr IntKind.u64 (wr IntKind.i64 (30 - 1))).toNat IntKind.u64.bits)))) n) / pow2 (min (wr IntKind.u64 30).toNat IntKind.u64.bits))).toNat.lor (u64 (wr IntKind.u64 (wHi (addM (wVal x y) n (wVal 0 (wr IntKind.u64 (1 * pow2 (min (wr IntKind.u64 (wr IntKind.i64 (30 - 1))).toNat IntKind.u64.bits)))) n) * pow2 (min (wr IntKind.u64 (wr IntKind.i64 (64 - 30))).toNat IntKind.u64.bits)))).toNat)), At.bool (addN (wVal x y) n (wVal 0 (wr IntKind.u64 (1 * pow2 (min (wr IntKind.u64 (wr IntKind.i64 (30 - 1))).toNat IntKind.u64.bits)))) n)]), [(decide (wr IntKind.u64 (wr IntKind.i64 (64 - 30)) < 0), false), (decide (wr IntKind.u64 30 < 0), false), (decide (wr IntKind.u64 30 < 0), false), (isU x, true), (isU y, true), (isU 0, true), (isU (wr IntKind.u64 (1 * pow2 (min (wr IntKind.u64 (wr IntKind.i64 (30 - 1))).toNat IntKind.u64.bits))), true), (decide (wVal x y + wVal 0 (wr IntKind.u64 (1 * pow2 (min (wr IntKind.u64 (wr IntKind.i64 (30 - 1))).toNat IntKind.u64.bits))) < 340282366920938463463374607431768211456), true), (decide (wr IntKind.u64 (wr IntKind.i64 (30 - 1)) < 0), false)]) := by kernel_rfl
def rshiftT (x y : Int) (n : Bool) : Option (LV × List (Bool × Bool)) := some (LV.v (V1.agg [At.int IntKind.u64 (wHi (addM (wVal x y) n (wVal 0 (wr IntKind.u64 (1 * pow2 (min (wr IntKind.u64 (wr IntKind.i64 (30 - 1))).toNat IntKind.u64.bits)))) n) / pow2 (min (wr IntKind.u64 30).toNat IntKind.u64.bits)), At.int IntKind.u64 (Int.ofNat ((u64 (wLo (addM (wVal x y) n (wVal 0 (wr IntKind.u64 (1 * pow2 (min (wr IntKind.u64 (wr IntKind.i64 (30 - 1))).toNat IntKind.u64.bits)))) n) / pow2 (min (wr IntKind.u64 30).toNat IntKind.u64.bits))).toNat.lor (u64 (wr IntKind.u64 (wHi (addM (wVal x y) n (wVal 0 (wr IntKind.u64 (1 * pow2 (min (wr IntKind.u64 (wr IntKind.i64 (30 - 1))).toNat IntKind.u64.bits)))) n) * pow2 (min (wr IntKind.u64 (wr IntKind.i64 (64 - 30))).toNat IntKind.u64.bits)))).toNat)), At.bool (addN (wVal x y) n (wVal 0 (wr IntKind.u64 (1 * pow2 (min (wr IntKind.u64 (wr IntKind.i64 (30 - 1))).toNat IntKind.u64.bits)))) n)]), [(decide (wr IntKind.u64 (wr IntKind.i64 (64 - 30)) < 0), false), (decide (wr IntKind.u64 30 < 0), false), (isU x, true), (isU y, true), (isU 0, true), (isU (wr IntKind.u64 (1 * pow2 (min (wr IntKind.u64 (wr IntKind.i64 (30 - 1))).toNat IntKind.u64.bits))), true), (decide (wVal x y + wVal 0 (wr IntKind.u64 (1 * pow2 (min (wr IntKind.u64 (wr IntKind.i64 (30 - 1))).toNat IntKind.u64.bits))) < 340282366920938463463374607431768211456), true), (decide (wr IntKind.u64 (wr IntKind.i64 (30 - 1)) < 0), false)])
def rshiftF : List LV → Option (LV × List (Bool × Bool))
  | [.v (.agg [.int .u64 x, .int .u64 y, .bool n]), .v (.one (.int .i64 30))] => rshiftT x y n
  | _ => none
theorem sumrshift : SumOK Try.prog 76 (pureSum rshiftF) := by
  refine pureSum_run (z := Zl) soundR2 (own_of soundR2 Try.func76 (by kernel_rfl)) fun args v cs hF hc => ?_
  unfold rshiftF at hF
  split at hF
  · rename_i x y n
    unfold rshiftT at hF
    cases hF
    exact ⟨2000, [none, none, none], _, rshiftR1 x y n, ae_cons (hd_of (hc)) (ae_cons (hd_of (tl_of (hc))) (ae_cons (hd_of (tl_of (hc))) (ae_cons (hd_of (tl_of (tl_of (hc)))) (ae_cons (hd_of (tl_of (tl_of (tl_of (hc))))) (ae_cons (hd_of (tl_of (tl_of (tl_of (tl_of (hc)))))) (ae_cons (hd_of (tl_of (tl_of (tl_of (tl_of (tl_of (hc))))))) (ae_cons (hd_of (tl_of (tl_of (tl_of (tl_of (tl_of (tl_of (hc)))))))) (ae_cons (hd_of (tl_of (tl_of (tl_of (tl_of (tl_of (tl_of (tl_of (hc))))))))) (ae_nil)))))))))⟩
  · cases hF

theorem rabsR1 (a : Int) : (runF Try.prog R2S Zl 2000 82 [.v (.one (.int .i64 a))] [] 0 [some true]).map (fun r => (r.1, r.2.2.2)) = some (LV.v (V1.one (At.int IntKind.i64 (wr IntKind.i64 (0 - satV a)))), [(decide (satV a < 0), true)]) := by kernel_rfl
theorem rabsR2 (a : Int) : (runF Try.prog R2S Zl 2000 82 [.v (.one (.int .i64 a))] [] 0 [some false]).map (fun r => (r.1, r.2.2.2)) = some (LV.v (V1.one (At.int IntKind.i64 (satV a))), [(decide (satV a < 0), false)]) := by kernel_rfl
def rabsT (a : Int) : Option (LV × List (Bool × Bool)) := 
  bif (decide (satV a < 0)) then some (LV.v (V1.one (At.int IntKind.i64 (wr IntKind.i64 (0 - satV a)))), [])
  else some (LV.v (V1.one (At.int IntKind.i64 (satV a))), [])
def rabsF : List LV → Option (LV × List (Bool × Bool))
  | [.v (.one (.int .i64 a))] => rabsT a
  | _ => none
theorem sumrabs : SumOK Try.prog 82 (pureSum rabsF) := by
  refine pureSum_run (z := Zl) soundR2 (own_of soundR2 Try.func82 (by kernel_rfl)) fun args v cs hF hc => ?_
  unfold rabsF at hF
  split at hF
  · rename_i a
    unfold rabsT at hF
    rcases bool_cases (decide (satV a < 0)) with h0 | h0
    · rw [cond_t h0] at hF
      cases hF
      exact ⟨2000, [some true], _, rabsR1 a, ae_cons (h0) (ae_nil)⟩
    · rw [cond_f h0] at hF
      cases hF
      exact ⟨2000, [some false], _, rabsR2 a, ae_cons (h0) (ae_nil)⟩
  · cases hF

theorem raddcR1 (a b : Int) (hb : Bool) (ty : TypeId) : (runF Try.prog R2S Zl 2000 66 [A0, .v (.one (.int .i64 a)), .v (.one (.int .i64 b))] [(0, flag ty hb)] 1 []).map acc3 = some (LV.v (V1.one (At.int IntKind.i64 (satV (wr IntKind.i64 (satV a + satV b))))), some { ty := ty, fr := (0, 0), es := 0, cells := [At.bool (hb || satH a || satH b || satH (wr IntKind.i64 (satV a + satV b)))] }, []) := by kernel_rfl
def raddcT (a b : Int) (hb : Bool) : Option (LV × Bool × List (Bool × Bool)) := some (LV.v (V1.one (At.int IntKind.i64 (satV (wr IntKind.i64 (satV a + satV b))))), (hb || satH a || satH b || satH (wr IntKind.i64 (satV a + satV b))), [])
def raddcF : List LV → Bool → Option (LV × Bool × List (Bool × Bool))
  | [.v (.one (.int .i64 a)), .v (.one (.int .i64 b))], hb => raddcT a b hb
  | _, _ => none
theorem sumraddc (ty : TypeId) : SumOK Try.prog 66 (accSum ty raddcF) := by
  refine accSum_run (z := Zl) soundR2 (own_of soundR2 Try.func66 (by kernel_rfl)) fun args hb v h' cs hF hc => ?_
  unfold raddcF at hF
  split at hF
  · rename_i a b
    unfold raddcT at hF
    cases hF
    exact ⟨rfl, 2000, [], _, raddcR1 a b hb ty, ae_nil⟩
  · cases hF

def rshiftS : List LV → Option (LV × List (Bool × Bool))
  | [.v (.agg [.int .u64 x, .int .u64 y, .bool n]), .v (.one (.int .i64 30))] => some (.v (RB ((wVal x y + 536870912) / 1073741824) n), [(isU x, true), (isU y, true), (decide (wVal x y + 536870912 < 340282366920938463463374607431768211456), true)])
  | _ => none
theorem sumRshift : SumOK Try.prog 76 (pureSum rshiftS) := by
  refine sumrshift.pure_re fun args v cs hF hc => ?_
  unfold rshiftS at hF
  split at hF
  · rename_i x y n
    cases hF
    simp only [all_tt, isU_iff, decide_eq_true_eq] at hc
    obtain ⟨⟨x0, x1⟩, ⟨y0, y1⟩, hs, -⟩ := hc
    have e1 : wVal 0 (wr IntKind.u64 (1 * pow2 (min (wr IntKind.u64 (wr IntKind.i64 (30 - 1))).toNat IntKind.u64.bits))) = 536870912 := by decide
    have e1' : wr IntKind.u64 (1 * pow2 (min (wr IntKind.u64 (wr IntKind.i64 (30 - 1))).toNat IntKind.u64.bits)) = 536870912 := by decide
    have e2 : pow2 (min (wr IntKind.u64 30).toNat IntKind.u64.bits) = 1073741824 := by decide
    have e3 : pow2 (min (wr IntKind.u64 (wr IntKind.i64 (64 - 30))).toNat IntKind.u64.bits) = 17179869184 := by decide
    have eM : addM (wVal x y) n 536870912 n = wVal x y + 536870912 := by unfold addM; rw [if_pos rfl]
    have eN : addN (wVal x y) n 536870912 n = n := by unfold addN; rw [if_pos rfl]
    have hV0 : 0 ≤ wVal x y + 536870912 := by unfold wVal; omega
    refine ⟨_, agg3 _ ?_ ?_ ?_, ?_⟩
    · rw [e1, e2, eM]
      generalize wVal x y + 536870912 = V at *
      unfold wHi; omega
    · rw [e1, e2, e3, eM]
      generalize wVal x y + 536870912 = V at *
      have hl := wLo_in V
      obtain ⟨g1, g2, g3, g5, g6, g7, g8⟩ := shr_lt (wHi V) (wLo V) 1073741824 17179869184 (by decide) (by decide) (by decide) hl.1 hl.2
      rw [wVal_mk] at g1 g2
      rw [wr_u, g2, g3]
      have hp : pow2 34 = 17179869184 := rfl
      have := (ior_add (wHi V % 1073741824) (wLo V / 1073741824) 34 g8 g5 (by rw [hp]; exact g6) (by rw [hp]; exact g7)).2
      rw [hp] at this
      exact this
    · rw [e1, eN]
    · rw [e1, e1']
      simp only [all_tt, all_ff, isU_iff, decide_eq_true_eq, decide_eq_false_iff_not]
      refine ⟨by decide, by decide, ⟨x0, x1⟩, ⟨y0, y1⟩, by decide, by decide, by omega, by decide, ae_nil⟩
  · cases hF

def rabsS : List LV → Option (LV × List (Bool × Bool))
  | [.v (.one (.int .i64 a))] => some (I (fabsV a), [])
  | _ => none
theorem sumRabs : SumOK Try.prog 82 (pureSum rabsS) := by
  refine sumrabs.pure_re fun args v cs hF hc => ?_
  unfold rabsS at hF
  split at hF
  · rename_i a
    cases hF
    refine ⟨[], ?_, ae_nil⟩
    show rabsT a = _
    have hb := sat_bd a
    have hw : wr IntKind.i64 (0 - satV a) = -satV a := by have := w64_in (x := 0 - satV a) (by omega) (by omega); rw [wr_i, this]; omega
    unfold rabsT
    rw [hw]
    by_cases h : satV a < 0
    · rw [cond_t (decide_eq_true h)]
      refine oneI _ ?_
      unfold fabsV; unfold satV clampV at *; (repeat' split at h) <;> (repeat' split) <;> omega
    · rw [cond_f (decide_eq_false h)]
      refine oneI _ ?_
      unfold fabsV; unfold satV clampV at *; (repeat' split at h) <;> (repeat' split) <;> omega
  · cases hF

def raddcS : List LV → Bool → Option (LV × Bool × List (Bool × Bool))
  | [.v (.one (.int .i64 a)), .v (.one (.int .i64 b))], hb => some (I (faddV [a, b]), hb || faddH [a, b], [])
  | _, _ => none
theorem sumRaddc (ty : TypeId) : SumOK Try.prog 66 (accSum ty raddcS) := by
  refine (sumraddc ty).acc_re fun args hb v h' cs hF hc => ?_
  unfold raddcS at hF
  split at hF
  · rename_i a b
    cases hF
    refine ⟨[], ?_, ae_nil⟩
    have h1 := sat_bd a
    have h2 := sat_bd b
    have hw : wr IntKind.i64 (satV a + satV b) = sumS [a, b] := by
      have := w64_in (x := satV a + satV b) (by omega) (by omega); rw [wr_i, this]; simp only [sumS]; omega
    show raddcT a b hb = _
    unfold raddcT faddV faddH
    rw [hw]
    refine accR rfl ?_
    simp only [anyH, Bool.or_false, Bool.or_assoc]
  · cases hF

noncomputable def R3S : FuncId → Option SumK := more (more (more R2S 76 (pureSum rshiftS)) 82 (pureSum rabsS)) 66 (accAny raddcS)
theorem soundR3 : Sound Try.prog R3S := ((soundR2.more sumRshift).more sumRabs).more (accAny_ok sumRaddc)
end Go.Proofs.Ytdkmiliehlhmbaa

/- Facts of rounding, dividing, roots, clamping: plain. -/
namespace Go.Proofs.Ytdkmiliehlhmbaa
open Go.Lr
set_option linter.unusedVariables false

theorem sat_odd (a : Int) : satV (-a) = -satV a := by
  unfold satV clampV; (repeat' split) <;> omega
theorem sat_sat (a : Int) : satV (satV a) = satV a := by have := sat_bd a; exact sat_in this.1 this.2
theorem rnd_pos {w : Int} (h : 0 ≤ w) (s : Nat) : rndV w s = (w + halfP s) / pow2 s := by
  unfold rndV sgn
  rw [absV_pos h]
  have : ¬ w < 0 := by omega
  simp [this]
theorem rnd_neg {w : Int} (h : w ≤ 0) (s : Nat) : rndV w s = -((-w + halfP s) / pow2 s) := by
  by_cases h0 : w = 0
  · subst h0
    rw [rnd_pos (Int.le_refl 0)]
    have h1 := halfP_le s
    have h2 := pow2_pos s
    have h3 : halfP s < pow2 s := by
      cases s with
      | zero => decide
      | succ n => have := pow2_pos n; show pow2 n < _; rw [pow2_succ]; omega
    have e : (0 + halfP s) / pow2 s = 0 := Int.ediv_eq_zero_of_lt (by omega) (by omega)
    rw [e, Int.neg_zero, e, Int.neg_zero]
  · unfold rndV sgn
    rw [absV_neg h]
    have : w < 0 := by omega
    simp [this]
theorem rnd_odd (w : Int) (s : Nat) : rndV (-w) s = -rndV w s := by
  by_cases h : 0 ≤ w
  · rw [rnd_neg (by omega), rnd_pos h, Int.neg_neg]
  · rw [rnd_pos (by omega), rnd_neg (w := w) (by omega), Int.neg_neg]
theorem halfP_two (s : Nat) : 2 * halfP s ≤ pow2 s ∧ (s = 0 ∧ halfP s = 0 ∧ pow2 s = 1 ∨ 2 * halfP s = pow2 s) := by
  cases s with
  | zero => exact ⟨by decide, .inl ⟨rfl, rfl, rfl⟩⟩
  | succ n => rw [pow2_succ]; exact ⟨Int.le_refl _, .inr rfl⟩
theorem rnd_bd (w : Int) (s : Nat) : -(pow2 s) ≤ 2 * (rndV w s * pow2 s - w) ∧ 2 * (rndV w s * pow2 s - w) ≤ pow2 s := by
  have hp := pow2_pos s
  have hh := halfP_two s
  have h1 := (halfP_le s).1
  have key : ∀ u : Int, 0 ≤ u → -(pow2 s) ≤ 2 * ((u + halfP s) / pow2 s * pow2 s - u) ∧ 2 * ((u + halfP s) / pow2 s * pow2 s - u) ≤ pow2 s := by
    intro u hu
    have e := Int.emod_add_mul_ediv (u + halfP s) (pow2 s)
    have a := Int.emod_nonneg (u + halfP s) (show pow2 s ≠ 0 by omega)
    have b := Int.emod_lt_of_pos (u + halfP s) hp
    rw [Int.mul_comm (pow2 s)] at e
    generalize (u + halfP s) / pow2 s * pow2 s = q at *
    generalize (u + halfP s) % pow2 s = r at *
    omega
  by_cases h : 0 ≤ w
  · rw [rnd_pos h]; exact key w h
  · rw [rnd_neg (by omega)]
    have := key (-w) (by omega)
    rw [Int.neg_mul]
    omega

theorem quo_bd {a b : Int} (ha : 0 ≤ a) (hb : 0 < b) : -b ≤ 2 * (quoR a b * b - a) ∧ 2 * (quoR a b * b - a) ≤ b := by
  have e := Int.emod_add_mul_ediv a b
  have h0 := Int.emod_nonneg a (show b ≠ 0 by omega)
  have h1 := Int.emod_lt_of_pos a hb
  rw [Int.mul_comm b] at e
  unfold quoR
  split
  · have e2 : (a / b + 1) * b = a / b * b + b := by grind
    rw [e2]; omega
  · omega
theorem div_pos {a b : Int} (ha : 0 ≤ a) (hb : 0 < b) : divV a b = quoR a b := by
  unfold divV
  rw [absV_pos ha, absV_pos (by omega)]
  have h1 : ¬ a < 0 := by omega
  have h2 : ¬ b < 0 := by omega
  simp [h1, h2, sgn]
/-- Roots: bounds, order. -/
theorem root_le {N m : Int} (h0 : 0 ≤ N) (h1 : N < 340282366920938463463374607431768211456) (hm : 0 ≤ m) (h : N ≤ m * m + m) : rootW N ≤ m := by
  obtain ⟨a, b, c⟩ := rootW_spec h0 h1
  generalize rootW N = r at *
  rcases Int.lt_or_le m r with hlt | hle
  · exfalso
    rcases c with rfl | c
    · omega
    · have e : r * r - r = r * (r - 1) := by grind
      have : (m + 1) * m ≤ r * (r - 1) := Int.mul_le_mul (by omega) (by omega) hm a
      have e2 : (m + 1) * m = m * m + m := by grind
      omega
  · exact hle
theorem root_ge {N m : Int} (h0 : 0 ≤ N) (h1 : N < 340282366920938463463374607431768211456) (h : m ≤ 0 ∨ m * m - m < N) : m ≤ rootW N := by
  obtain ⟨a, b, c⟩ := rootW_spec h0 h1
  generalize rootW N = r at *
  rcases h with h | h
  · omega
  · rcases Int.lt_or_le r m with hlt | hle
    · exfalso
      have e : r * r + r = r * (r + 1) := by grind
      have : r * (r + 1) ≤ (m - 1) * m := Int.mul_le_mul (by omega) (by omega) (by omega) (by omega)
      have e2 : (m - 1) * m = m * m - m := by grind
      omega
    · exact hle
end Go.Proofs.Ytdkmiliehlhmbaa
