/- Joined texts. What each part proves stands ahead of it; no condition. -/
import Derived.Test.YtnabopepomjncaaLrM4

/- The law FxFlags: why it answers true. -/
namespace Go.Proofs.Ytnabopepomjncaa
open Go.Lr Go.RowKit
set_option linter.unusedVariables false
set_option linter.unusedSimpArgs false

def flH (a b : Int) : Bool := false || satH a || satH b || clampH 0 0 0
theorem fp1 (dead : Nat → Value) (a b : Int) (o n c : Nat) (ty : TypeId) (fr : Nat × Nat) (l : List At) : projS [2,7,9,10] [0,1] (execL Try.prog S75 Zl 400 (spineL 11 (bodyF Try.prog 3)) (Kst.st ⟨argsL 0 [I a, I b, SLX 0 o n c], [(0, ⟨ty, fr, 0, l⟩)], 1⟩ 114 dead (nn 1 (ff 1 (tt 6 (ff 7 (tt 2 (ff 1 (tt 1 (ff 1 (nn 2 (ff 1 (nn 1 (ff 1 (nn 2 (ff 1 (nn 1 (ff 3 [])))))))))))))))))) = some (Ex.normal, [SLX 0 o n c, P1v, NILs, bL (flH a b)], [some ⟨ty, fr, 0, l⟩, some (FL (flH a b))], ra 1 (!(flH a b == true), false) (ra 7 (!(flH a b), false) (ra 3 (decide (a > 1152921504606846976), true) (ra 7 (!(flH a b), false) (ra 6 ((false || satH a), true) (ra 1 (decide ((n : Int) > 50), false) [])))))) := by kernel_rfl
theorem fp2 (dead : Nat → Value) (a b : Int) (o n c : Nat) (ty : TypeId) (fr : Nat × Nat) (l : List At) : projS [2,7,9,10] [0,1] (execL Try.prog S75 Zl 400 (spineL 11 (bodyF Try.prog 3)) (Kst.st ⟨argsL 0 [I a, I b, SLX 0 o n c], [(0, ⟨ty, fr, 0, l⟩)], 1⟩ 114 dead (nn 1 (ff 1 (tt 6 (ff 12 (tt 2 (ff 1 (tt 1 (ff 1 (nn 2 (ff 1 (nn 1 (ff 3 [])))))))))))))) = some (Ex.normal, [SLX 0 o n c, P1v, NILs, bL (flH a b)], [some ⟨ty, fr, 0, l⟩, some (FL (flH a b))], ra 1 (!(flH a b == true), false) (ra 5 (!(flH a b), false) (ra 3 (decide (a < -1152921504606846976), true) (ra 2 (!(flH a b), false) (ra 3 (decide (a > 1152921504606846976), false) (ra 7 (!(flH a b), false) (ra 6 ((false || satH a), true) (ra 1 (decide ((n : Int) > 50), false) [])))))))) := by kernel_rfl
theorem fp3 (dead : Nat → Value) (a b : Int) (o n c : Nat) (ty : TypeId) (fr : Nat × Nat) (l : List At) : projS [2,7,9,10] [0,1] (execL Try.prog S75 Zl 400 (spineL 11 (bodyF Try.prog 3)) (Kst.st ⟨argsL 0 [I a, I b, SLX 0 o n c], [(0, ⟨ty, fr, 0, l⟩)], 1⟩ 114 dead (nn 1 (ff 7 (nn 7 (ff 2 (nn 1 (ff 1 (nn 1 (ff 2 (nn 1 (ff 1 (nn 1 (tt 2 (nn 1 (tt 1 (nn 2 (ff 1 [])))))))))))))))))) = some (Ex.normal, [SLX 0 o n c, P1v, NILs, bL (flH a b)], [some ⟨ty, fr, 0, l⟩, some (FL (flH a b))], ra 1 (!(flH a b == true), false) (ra 3 (decide (b > 1152921504606846976), true) (ra 3 (decide (a < -1152921504606846976), false) (ra 3 (decide (a > 1152921504606846976), false) (ra 6 ((false || satH a), false) (ra 1 (decide ((n : Int) > 50), false) [])))))) := by kernel_rfl
theorem fp4 (dead : Nat → Value) (a b : Int) (o n c : Nat) (ty : TypeId) (fr : Nat × Nat) (l : List At) : projS [2,7,9,10] [0,1] (execL Try.prog S75 Zl 400 (spineL 11 (bodyF Try.prog 3)) (Kst.st ⟨argsL 0 [I a, I b, SLX 0 o n c], [(0, ⟨ty, fr, 0, l⟩)], 1⟩ 114 dead (nn 1 (ff 7 (nn 7 (ff 2 (nn 1 (ff 1 (nn 1 (ff 2 (nn 1 (ff 1 (nn 1 (ff 2 (nn 1 (ff 1 (nn 2 (ff 1 [])))))))))))))))))) = some (Ex.normal, [SLX 0 o n c, P1v, NILs, bL (flH a b)], [some ⟨ty, fr, 0, l⟩, some (FL (flH a b))], ra 1 (!(flH a b == decide (b < -1152921504606846976)), false) (ra 3 (decide (b > 1152921504606846976), false) (ra 3 (decide (a < -1152921504606846976), false) (ra 3 (decide (a > 1152921504606846976), false) (ra 6 ((false || satH a), false) (ra 1 (decide ((n : Int) > 50), false) [])))))) := by kernel_rfl
theorem fp5 (dead : Nat → Value) (a b : Int) (o n c : Nat) (ty : TypeId) (fr : Nat × Nat) (l : List At) : projS [2,7,9,10] [0,1] (execL Try.prog S75 Zl 400 (spineL 11 (bodyF Try.prog 3)) (Kst.st ⟨argsL 0 [I a, I b, SLX 0 o n c], [(0, ⟨ty, fr, 0, l⟩)], 1⟩ 114 dead (nn 1 (ff 7 (nn 7 (ff 2 (nn 1 (ff 1 (nn 1 (ff 2 (nn 1 (ff 1 (nn 1 (ff 2 (nn 1 (ff 1 (nn 2 (ff 1 [])))))))))))))))))) = some (Ex.normal, [SLX 0 o n c, P1v, NILs, bL (flH a b)], [some ⟨ty, fr, 0, l⟩, some (FL (flH a b))], ra 1 (!(flH a b == decide (b < -1152921504606846976)), false) (ra 3 (decide (b > 1152921504606846976), false) (ra 3 (decide (a < -1152921504606846976), false) (ra 3 (decide (a > 1152921504606846976), false) (ra 6 ((false || satH a), false) (ra 1 (decide ((n : Int) > 50), false) [])))))) := by kernel_rfl
theorem fn1 (a b : Int) : (runF Try.prog S75 Zl 4000 3 [I a, I b, NILs] [] 1 (nn 2 (tt 6 (ff 7 (tt 2 (ff 1 (tt 1 (ff 1 (nn 2 (ff 1 (nn 1 (ff 1 (nn 2 (ff 1 (nn 1 (ff 3 [])))))))))))))))).map (fun r => (r.1, ([] : Mem).map (fun q => getM r.2.1 q.1), r.2.2.2)) = some (bL (flH a b == flH a b), ([] : Mem).map (fun q => some q.2), ra 1 (!(flH a b == true), false) (ra 7 (!(flH a b), false) (ra 3 (decide (a > 1152921504606846976), true) (ra 7 (!(flH a b), false) (ra 6 ((false || satH a), true) []))))) := by kernel_rfl
theorem fn2 (a b : Int) : (runF Try.prog S75 Zl 4000 3 [I a, I b, NILs] [] 1 (nn 2 (tt 6 (ff 12 (tt 2 (ff 1 (tt 1 (ff 1 (nn 2 (ff 1 (nn 1 (ff 3 [])))))))))))).map (fun r => (r.1, ([] : Mem).map (fun q => getM r.2.1 q.1), r.2.2.2)) = some (bL (flH a b == flH a b), ([] : Mem).map (fun q => some q.2), ra 1 (!(flH a b == true), false) (ra 5 (!(flH a b), false) (ra 3 (decide (a < -1152921504606846976), true) (ra 2 (!(flH a b), false) (ra 3 (decide (a > 1152921504606846976), false) (ra 7 (!(flH a b), false) (ra 6 ((false || satH a), true) []))))))) := by kernel_rfl
theorem fn3 (a b : Int) : (runF Try.prog S75 Zl 4000 3 [I a, I b, NILs] [] 1 (nn 2 (ff 6 (nn 7 (ff 2 (nn 1 (ff 1 (nn 1 (ff 2 (nn 1 (ff 1 (nn 1 (tt 2 (nn 1 (tt 1 (nn 2 (ff 1 []))))))))))))))))).map (fun r => (r.1, ([] : Mem).map (fun q => getM r.2.1 q.1), r.2.2.2)) = some (bL (flH a b == flH a b), ([] : Mem).map (fun q => some q.2), ra 1 (!(flH a b == true), false) (ra 3 (decide (b > 1152921504606846976), true) (ra 3 (decide (a < -1152921504606846976), false) (ra 3 (decide (a > 1152921504606846976), false) (ra 6 ((false || satH a), false) []))))) := by kernel_rfl
theorem fn4 (a b : Int) : (runF Try.prog S75 Zl 4000 3 [I a, I b, NILs] [] 1 (nn 2 (ff 6 (nn 7 (ff 2 (nn 1 (ff 1 (nn 1 (ff 2 (nn 1 (ff 1 (nn 1 (ff 2 (nn 1 (ff 1 (nn 2 (ff 1 []))))))))))))))))).map (fun r => (r.1, ([] : Mem).map (fun q => getM r.2.1 q.1), r.2.2.2)) = some (bL (flH a b == flH a b), ([] : Mem).map (fun q => some q.2), ra 1 (!(flH a b == decide (b < -1152921504606846976)), false) (ra 3 (decide (b > 1152921504606846976), false) (ra 3 (decide (a < -1152921504606846976), false) (ra 3 (decide (a > 1152921504606846976), false) (ra 6 ((false || satH a), false) []))))) := by kernel_rfl
theorem fn5 (a b : Int) : (runF Try.prog S75 Zl 4000 3 [I a, I b, NILs] [] 1 (nn 2 (ff 6 (nn 7 (ff 2 (nn 1 (ff 1 (nn 1 (ff 2 (nn 1 (ff 1 (nn 1 (ff 2 (nn 1 (ff 1 (nn 2 (ff 1 []))))))))))))))))).map (fun r => (r.1, ([] : Mem).map (fun q => getM r.2.1 q.1), r.2.2.2)) = some (bL (flH a b == flH a b), ([] : Mem).map (fun q => some q.2), ra 1 (!(flH a b == decide (b < -1152921504606846976)), false) (ra 3 (decide (b > 1152921504606846976), false) (ra 3 (decide (a < -1152921504606846976), false) (ra 3 (decide (a > 1152921504606846976), false) (ra 6 ((false || satH a), false) []))))) := by kernel_rfl
theorem fE1 (a b : Int) (o n c : Nat) (ty : TypeId) (fr : Nat × Nat) (l : List At) : (runF Try.prog S75 Zl 4000 3 [I a, I b, SLX 0 o n c] [(0, ⟨ty, fr, 0, l⟩)] 1 [none, some true]).map (fun r => (r.1, ([(0, ⟨ty, fr, 0, l⟩)] : Mem).map (fun q => getM r.2.1 q.1), r.2.2.2)) = some (bL true, ([(0, ⟨ty, fr, 0, l⟩)] : Mem).map (fun q => some q.2), [(decide ((n : Int) > 50), true)]) := by kernel_rfl
theorem memT {nb : Nat} {b0 b1 : Blk} (hnb : 2 ≤ nb) (h0 : okL (below nb) b0.cells = true) (h1 : okL (below nb) b1.cells = true) : memOKb nb [(0, b0), (1, b1)] = true := by
  have a : Nat.blt 0 nb = true := by rw [nblt]; simp; omega
  have b : Nat.blt 1 nb = true := by rw [nblt]; simp; omega
  simp only [memOKb, a, b, h0, h1, getM]
theorem memS {nb : Nat} {b0 : Blk} (hnb : 1 ≤ nb) (h0 : okL (below nb) b0.cells = true) : memOKb nb [(0, b0)] = true := by
  have a : Nat.blt 0 nb = true := by rw [nblt]; simp; omega
  simp only [memOKb, a, h0, getM]
abbrev Goal (f : FuncId) (args : Array Value) (w : World) : Prop := Calls Try.prog f args w fun e w' => e = .returned (.bool true) ∧ Below w.heap.size w w'
theorem raT {c : Prop} [Decidable c] {l : List (Bool × Bool)} {n : Nat} (h : c) (hl : ∀ d ∈ l, d.1 = d.2) : ∀ d ∈ ra n (decide c, true) l, d.1 = d.2 := ra_ok (decide_eq_true h) hl _
theorem raF {c : Prop} [Decidable c] {l : List (Bool × Bool)} {n : Nat} (h : ¬ c) (hl : ∀ d ∈ l, d.1 = d.2) : ∀ d ∈ ra n (decide c, false) l, d.1 = d.2 := ra_ok (decide_eq_false h) hl _
theorem raQ {b c : Bool} {l : List (Bool × Bool)} {n : Nat} (h : b = c) (hl : ∀ d ∈ l, d.1 = d.2) : ∀ d ∈ ra n (b, c) l, d.1 = d.2 := ra_ok h hl _
theorem raZ : ∀ d ∈ ([] : List (Bool × Bool)), d.1 = d.2 := by simp
theorem nebT {a b : Int} (h : a ≠ b) : (a != b) = true := by simpa using h
theorem nebF {a b : Int} (h : a = b) : (a != b) = false := by simpa using h
def envB (b0 b1 : Nat) : Env := fun i => match i with | 0 => (b0, 0) | _ => (b1, 0)
theorem rel_one {b b1 : Nat} {arr : Array Value} {ty : TypeId} {fr : Nat × Nat} {w : World} (h : w.heap[b]? = some (.cells arr ty fr)) : Rel (envB b b1) (getM [(0, blkOf arr ty fr)]) w := by
  refine ⟨fun i k hk => ?_, fun i j hi hj _ => ?_⟩
  · obtain ⟨rfl, rfl⟩ := get1 hk
    exact blkOf_at rfl h
  · obtain ⟨x, hx⟩ := Option.isSome_iff_exists.1 hi
    obtain ⟨y, hy⟩ := Option.isSome_iff_exists.1 hj
    rw [(get1 hx).1, (get1 hy).1]
theorem below_l {E : Env} {m : Mem} {w w' : World} (hz : ∀ i b, getM m i = some b → b.es = 0) (hrel : Rel E (getM m) w) (hl : Lcl E m m w w') : Below w.heap.size w w' := by
  refine ⟨hl.os, hl.tape, hl.output, hl.size, fun k hk => ?_⟩
  by_cases hx : ∃ i, (getM m i).isSome ∧ (E i).1 = k
  · obtain ⟨i, hi, rfl⟩ := hx
    obtain ⟨b, hb⟩ := Option.isSome_iff_exists.1 hi
    obtain ⟨r1, g1, g2, g3⟩ := hl.blk i b hb
    obtain ⟨r2, f1, f2, f3⟩ := hrel.blk i b hb
    rw [g1]
    have he := hz i b hb
    rw [f1, g2 he, f2 he]
  · exact hl.frame k hk fun i hi he => hx ⟨i, hi, he⟩

theorem sat_t {a : Int} (h : a < -1152921504606846976 ∨ a > 1152921504606846976) : satH a = true := by
  unfold satH clampH
  rcases h with h | h
  · simp [h]
  · have : ¬ a < -1152921504606846976 := by omega
    simp [h]
theorem sat_f {a : Int} (h0 : -1152921504606846976 ≤ a) (h1 : a ≤ 1152921504606846976) : satH a = false := by
  unfold satH clampH
  have g0 : ¬ a < -1152921504606846976 := by omega
  have g1 : ¬ 1152921504606846976 < a := by omega
  simp [g0, g1]
theorem cl0 : clampH 0 0 0 = false := by decide
def lwS (ty : TypeId) (fr : Nat × Nat) (l : List At) (o n c : Nat) (h s : Bool) (k : Nat) (i : Int) : Kst := ⟨[(2, SLX 0 o n c), (7, P1v), (9, SLU (3 * (k + 1) + 1) (k + 1)), (10, bL s), (11, I i)], (0, ⟨ty, fr, 0, l⟩) :: (lwB (k + 1)).zip (lwK (xB l o) (k + 1) h), 3 * (k + 1) + 2⟩
def lwX (ty : TypeId) (fr : Nat × Nat) (l : List At) (o n c : Nat) (h s : Bool) (k : Nat) : Kst := ⟨[(2, SLX 0 o n c), (7, P1v), (9, SLU (3 * (k + 1) + 1) (k + 1)), (10, bL s)], (0, ⟨ty, fr, 0, l⟩) :: (lwB (k + 1)).zip (lwK (xB l o) (k + 1) h), 3 * (k + 1) + 2⟩
def lw0 (ty : TypeId) (fr : Nat × Nat) (l : List At) (o n c : Nat) (h s : Bool) : Kst := ⟨[(2, SLX 0 o n c), (7, P1v), (9, NILs), (10, bL s), (11, I 0)], [(0, ⟨ty, fr, 0, l⟩), (1, FL h)], 2⟩
def lwE (ty : TypeId) (fr : Nat × Nat) (l : List At) : Kst := ⟨[(6, bL true)], [(0, ⟨ty, fr, 0, l⟩)], 1000⟩
section
variable (ty : TypeId) (fr : Nat × Nat) (l : List At) (o n c : Nat) (h : Bool)
theorem lw_mem (hok : okL noP l = true) (x : Nat → Bool) {k : Nat} (hk : k < 50) : memOKb (3 * (k + 1) + 2) ((0, ⟨ty, fr, 0, l⟩) :: (lwB (k + 1)).zip (lwK x (k + 1) h)) = true := by
  have t := tab_eq (flM x h) k hk
  simp only [Prod.mk.injEq] at t
  have e0 : Nat.blt 0 (3 * (k + 1) + 2) = true := by rw [nblt]; simp
  have h0 : okL (below (3 * (k + 1) + 2)) l = true := okL_mono noP_below hok
  simp only [memOKb, e0, h0, t.1, t.2]
theorem lwS_ok (hok : okL noP l = true) {k : Nat} (hk : k < 50) (s : Bool) (i : Int) : KstOK (lwS ty fr l o n c h s k i) := by
  have t := tab_eq (flV o n c s i) k hk
  simp only [Prod.mk.injEq] at t
  exact kst_ok t.1 (lw_mem ty fr l h hok _ hk)
theorem lwX_ok (hok : okL noP l = true) {k : Nat} (hk : k < 50) (s : Bool) : KstOK (lwX ty fr l o n c h s k) := by
  have t := tab_eq (flV o n c s 0) k hk
  simp only [Prod.mk.injEq] at t
  exact kst_ok t.2 (lw_mem ty fr l h hok _ hk)
theorem mem2_ok (hok : okL noP l = true) : memOKb 2 [(0, ⟨ty, fr, 0, l⟩), (1, FL h)] = true := by
  have h0 : okL (below 2) l = true := okL_mono noP_below hok
  have e0 : Nat.blt 0 2 = true := rfl
  have e1 : Nat.blt 1 2 = true := rfl
  have b0 : Nat.beq 1 0 = false := rfl
  have h1 : okL (below 2) (FL h).cells = true := rfl
  simp only [memOKb, e0, e1, h0, h1, getM, b0]
theorem lwE_ok (hok : okL noP l = true) : KstOK (lwE ty fr l) := by
  have h0 : okL (below 1000) l = true := okL_mono noP_below hok
  have e0 : Nat.blt 0 1000 = true := rfl
  refine kst_ok rfl ?_
  show memOKb 1000 [(0, ⟨ty, fr, 0, l⟩)] = true
  simp only [memOKb, e0, h0, getM]
theorem q_in {i : Nat} (hi : i < n) : (decide ((0 : Int) ≤ Int.ofNat i) && decide (Int.ofNat i < (n : Int))) = true ∧ decide (Int.ofNat i < (n : Int)) = true := by
  have a : decide (Int.ofNat i < (n : Int)) = true := decide_eq_true (Int.ofNat_lt.2 hi)
  have b : decide ((0 : Int) ≤ Int.ofNat i) = true := decide_eq_true (Int.natCast_nonneg i)
  rw [a, b]
  exact ⟨rfl, rfl⟩
theorem lwFirst (hok : okL noP l = true) (hn : 0 < n) (hx : isBoolAt l (o + 0) = true) (s : Bool) :
    To Try.prog 114 flL (lw0 ty fr l o n c h s) .normal (lwS ty fr l o n c h (s || xB l o 0) 0 ((1 : Nat) : Int)) := by
  have e4 : wr .i64 (Int.ofNat 0 + 1) = ((1 : Nat) : Int) := by decide
  have hx' : isBoolAt l (o + (Int.ofNat 0).toNat * 1) = true := hx
  obtain ⟨g1, g2⟩ := q_in n hn
  cases s
  · refine To.run (z := Zl) sound75 (slots := [2, 7, 9, 10, 11]) (blks := 0 :: lwB 1) (vs := [SLX 0 o n c, P1v, SLU 4 1, bL (xB l o 0), I ((1 : Nat) : Int)]) (bs := ⟨ty, fr, 0, l⟩ :: lwK (xB l o) 1 h) (nbB := 5)
      (fun dead => fl0F dead h o n c ty fr l) rfl (by rw [e4]) rfl ?_ (lwS_ok ty fr l o n c h hok (k := 0) (by omega) _ _) (by show 2 ≤ 5; omega)
    rw [hx', g1, g2]; simp
  · refine To.run (z := Zl) sound75 (slots := [2, 7, 9, 10, 11]) (blks := 0 :: lwB 1) (vs := [SLX 0 o n c, P1v, SLU 4 1, bL true, I ((1 : Nat) : Int)]) (bs := ⟨ty, fr, 0, l⟩ :: lwK (xB l o) 1 h) (nbB := 5)
      (fun dead => fl0T dead h o n c ty fr l) rfl (by rw [e4]) rfl ?_ (lwS_ok ty fr l o n c h hok (k := 0) (by omega) _ _) (by show 2 ≤ 5; omega)
    rw [hx', g1, g2]; simp
theorem lwStep (hok : okL noP l = true) {k : Nat} (hk : k < 49) (hn : k + 1 < n) (hx : isBoolAt l (o + (k + 1)) = true) (s : Bool) :
    To Try.prog 114 flL (lwS ty fr l o n c h s k ((k + 1 : Nat) : Int)) .normal (lwS ty fr l o n c h (s || xB l o (k + 1)) (k + 1) ((k + 2 : Nat) : Int)) := by
  have e4 : wr .i64 (Int.ofNat (k + 1) + 1) = ((k + 2 : Nat) : Int) := by
    have w : wr .i64 (Int.ofNat (k + 1) + 1) = Int.ofNat (k + 1) + 1 := w64_in (by show -9223372036854775808 ≤ ((k + 1 : Nat) : Int) + 1; omega) (by show ((k + 1 : Nat) : Int) + 1 < 9223372036854775808; omega)
    rw [w]; show ((k + 1 : Nat) : Int) + 1 = _; omega
  have hx' : isBoolAt l (o + (Int.ofNat (k + 1)).toNat * 1) = true := by
    have e : (Int.ofNat (k + 1)).toNat * 1 = k + 1 := by simp
    rw [e]; exact hx
  obtain ⟨g1, g2⟩ := q_in n hn
  cases s
  · refine To.run (z := Zl) sound75 (slots := [2, 7, 9, 10, 11]) (blks := 0 :: lwB (k + 2)) (vs := [SLX 0 o n c, P1v, SLU (3 * (k + 2) + 1) (k + 2), bL (xB l o (k + 1)), I ((k + 2 : Nat) : Int)]) (bs := ⟨ty, fr, 0, l⟩ :: lwK (xB l o) (k + 2) h) (nbB := 3 * (k + 2) + 2)
      (fun dead => tab_eq (flrF dead h o n c ty fr l) k hk) rfl (by rw [e4]) rfl ?_ (lwS_ok ty fr l o n c h hok (k := k + 1) (by omega) _ _) (by show 3 * (k + 1) + 2 ≤ 3 * (k + 2) + 2; omega)
    rw [hx', g1, g2]; simp
  · refine To.run (z := Zl) sound75 (slots := [2, 7, 9, 10, 11]) (blks := 0 :: lwB (k + 2)) (vs := [SLX 0 o n c, P1v, SLU (3 * (k + 2) + 1) (k + 2), bL true, I ((k + 2 : Nat) : Int)]) (bs := ⟨ty, fr, 0, l⟩ :: lwK (xB l o) (k + 2) h) (nbB := 3 * (k + 2) + 2)
      (fun dead => tab_eq (flrT dead h o n c ty fr l) k hk) rfl (by rw [e4]) rfl ?_ (lwS_ok ty fr l o n c h hok (k := k + 1) (by omega) _ _) (by show 3 * (k + 1) + 2 ≤ 3 * (k + 2) + 2; omega)
    rw [hx', g1, g2]; simp
theorem lwRd (hok : okL noP l = true) (hn : n ≤ 50) (hx : ∀ j, j < n → isBoolAt l (o + j) = true) : ∀ (m k : Nat), k + 1 + m = n →
    Rd Try.prog 114 flL (m + 1) (lwS ty fr l o n c h (orN (xB l o) h (k + 1)) k ((k + 1 : Nat) : Int)) (.exit 0) (lwX ty fr l o n c h (orN (xB l o) h n) (n - 1))
  | 0, k, e => by
    have e1 : n - 1 = k := by omega
    have e2 : k + 1 = n := by omega
    rw [e1, ← e2]
    refine Rd.last (by simp) (To.run (z := Zl) sound75 (slots := [2, 7, 9, 10]) (blks := 0 :: lwB (k + 1)) (vs := [SLX 0 o (k + 1) c, P1v, SLU (3 * (k + 1) + 1) (k + 1), bL (orN (xB l o) h (k + 1))]) (bs := ⟨ty, fr, 0, l⟩ :: lwK (xB l o) (k + 1) h) (nbB := 3 * (k + 1) + 2)
      (fun dead => tab_eq (flx dead h o (k + 1) c ty fr l (orN (xB l o) h (k + 1))) k (by omega)) rfl rfl rfl (ae_cons ?_ ae_nil) (lwX_ok ty fr l o (k + 1) c h hok (by omega) _) (Nat.le_refl _))
    exact decide_eq_false (Int.lt_irrefl _)
  | m + 1, k, e => Rd.next (lwStep ty fr l o n c h hok (by omega) (by omega) (hx (k + 1) (by omega)) _) (lwRd hok hn hx m (k + 1) (by omega))
theorem askZ_ok (hx : ∀ j, j < n → isBoolAt l (o + j) = true) : ∀ k, k ≤ n → ∀ d ∈ askZ l o k, d.1 = d.2
  | 0, _ => ae_nil
  | k + 1, hk => by
    have e : o + (Int.ofNat k).toNat * 1 = o + k := by simp
    refine ae_cons ?_ (ae_cons ?_ (ae_cons rfl (askZ_ok hx k (by omega))))
    · simp
    · show isBoolAt l (o + (Int.ofNat k).toNat * 1) = true
      rw [e]; exact hx k (by omega)
/-- Behind the conditions. -/
theorem lwRest (hok : okL noP l = true) (hn : n ≤ 50) (hx : ∀ j, j < n → isBoolAt l (o + j) = true) :
    To Try.prog 114 flR ⟨[(2, SLX 0 o n c), (7, P1v), (9, NILs), (10, bL h)], [(0, ⟨ty, fr, 0, l⟩), (1, FL h)], 2⟩ .ret (lwE ty fr l) := by
  have p : To Try.prog 114 (c1 (c1 flR)) ⟨[(2, SLX 0 o n c), (7, P1v), (9, NILs), (10, bL h)], [(0, ⟨ty, fr, 0, l⟩), (1, FL h)], 2⟩ .normal (lw0 ty fr l o n c h h) :=
    To.run (z := Zl) sound75 (slots := [2, 7, 9, 10, 11]) (blks := [0, 1]) (vs := [SLX 0 o n c, P1v, NILs, bL h, I 0]) (bs := [⟨ty, fr, 0, l⟩, FL h]) (nbB := 2) (fun dead => fli dead h o n c ty fr l h) rfl rfl rfl ae_nil (kst_ok rfl (mem2_ok ty fr l h hok)) (Nat.le_refl _)
  by_cases h0 : n = 0
  · subst h0
    have px : To Try.prog 114 flL (lw0 ty fr l o 0 c h h) (.exit 0) ⟨[(2, SLX 0 o 0 c), (7, P1v), (9, NILs), (10, bL h)], [(0, ⟨ty, fr, 0, l⟩), (1, FL h)], 2⟩ :=
      To.run (z := Zl) sound75 (slots := [2, 7, 9, 10]) (blks := [0, 1]) (vs := [SLX 0 o 0 c, P1v, NILs, bL h]) (bs := [⟨ty, fr, 0, l⟩, FL h]) (nbB := 2) (fun dead => flx0 dead h o 0 c ty fr l h) rfl rfl rfl (ae_cons (decide_eq_false (by decide)) ae_nil) (kst_ok rfl (mem2_ok ty fr l h hok)) (Nat.le_refl _)
    have pt : To Try.prog 114 (c2 flR) ⟨[(2, SLX 0 o 0 c), (7, P1v), (9, NILs), (10, bL h)], [(0, ⟨ty, fr, 0, l⟩), (1, FL h)], 2⟩ .ret (lwE ty fr l) :=
      To.run (z := Zl) sound75 (slots := [6]) (blks := [0]) (vs := [bL true]) (bs := [⟨ty, fr, 0, l⟩]) (nbB := 1000) (fun dead => flz0 dead h h o c ty fr l) rfl (by rw [beq_self_eq_true]) rfl ae_nil (lwE_ok ty fr l hok) (by show 2 ≤ 1000; omega)
    exact To.seq (by kernel_rfl) (To.seq (by kernel_rfl) p (To.block (id := 0) (by kernel_rfl) (To.loop (m := 1) (by kernel_rfl) (Rd.last (by simp) px)) (.inl rfl))) pt
  · obtain ⟨k, rfl⟩ : ∃ k, n = k + 1 := ⟨n - 1, by omega⟩
    have hF := lwFirst ty fr l o (k + 1) c h hok (by omega) (hx 0 (by omega)) h
    have hR := lwRd ty fr l o (k + 1) c h hok hn hx k 0 (by omega)
    rw [show k + 1 - 1 = k by omega] at hR
    have pt : To Try.prog 114 (c2 flR) (lwX ty fr l o (k + 1) c h (orN (xB l o) h (k + 1)) k) .ret (lwE ty fr l) :=
      To.run (z := Zl) sound75 (slots := [6]) (blks := [0]) (vs := [bL true]) (bs := [⟨ty, fr, 0, l⟩]) (nbB := 1000) (fun dead => flz dead h (orN (xB l o) h (k + 1)) o c ty fr l k (by omega)) rfl (by rw [beq_self_eq_true]) rfl (askZ_ok l o (k + 1) hx (k + 1) (Nat.le_refl _)) (lwE_ok ty fr l hok) (by show 3 * (k + 1) + 2 ≤ 1000; omega)
    exact To.seq (by kernel_rfl) (To.seq (by kernel_rfl) p (To.block (id := 0) (by kernel_rfl) (To.loop (m := k + 1 + 1) (by kernel_rfl) (Rd.next hF hR)) (.inl rfl))) pt
end
theorem ff_row (a b : Int) {o n c : Nat} {ty : TypeId} {fr : Nat × Nat} {arr : Array Value} (hnc : n ≤ c) (hx : ∀ j, j < c → isBoolAt (convL arr) (o + j) = true) (E : Env) (w : World)
    (hrel : Rel E (getM [(0, blkOf arr ty fr)]) w) : Goal 3 ([I a, I b, SLX 0 o n c].map (LV.den E)).toArray w := by
  have hm1 : memOKb 1 [(0, ⟨ty, fr, 0, convL arr⟩)] = true := memS (by omega) (convL_ok _ _)
  have hz : ∀ q ∈ ([(0, ⟨ty, fr, 0, convL arr⟩)] : Mem), q.2.es = 0 := by intro q hq; simp at hq; rcases hq with rfl; rfl
  have ha : ∀ u ∈ [I a, I b, SLX 0 o n c], u.ok (below 1) = true := by intro u hu; simp at hu; rcases hu with rfl | rfl | rfl <;> rfl
  by_cases c1 : (n : Int) > 50
  · exact law_mem sound75 (fE1 a b o n c ty fr (convL arr)) (ae_cons (decide_eq_true c1) ae_nil) hm1 hz ha rfl E w hrel
  have hok : okL noP (convL arr) = true := convL_ok _ _
  have hrest := lwRest ty fr (convL arr) o n c (flH a b) hok (by omega) (fun j hj => hx j (by omega))
  have hT : To Try.prog 114 (bodyF Try.prog 3) ⟨argsL 0 [I a, I b, SLX 0 o n c], [(0, ⟨ty, fr, 0, convL arr⟩)], 1⟩ .ret (lwE ty fr (convL arr)) := by
    by_cases k1 : a > 1152921504606846976
    · have sa : satH a = true := sat_t (by omega)
      have eF : flH a b = true := by unfold flH; rw [sa]; simp
      have e3 : (false || satH a) = true := by rw [sa]; rfl
      have e1 : (!(flH a b == true)) = false := by rw [eF]; rfl
      have e2 : (!(flH a b)) = false := by rw [eF]; rfl
      exact To.spineR (z := Zl) sound75 (k := 11) (slots := [2, 7, 9, 10]) (blks := [0, 1]) (vs := [SLX 0 o n c, P1v, NILs, bL (flH a b)]) (bs := [⟨ty, fr, 0, convL arr⟩, FL (flH a b)]) (nbB := 2) (by kernel_rfl) (fun dead => fp1 dead a b o n c ty fr (convL arr)) rfl rfl rfl (raQ (n := 1) e1 (raQ (n := 7) e2 (raT (n := 3) k1 (raQ (n := 7) e2 (raQ (n := 6) e3 (raF (n := 1) c1 raZ)))))) (kst_ok rfl (mem2_ok ty fr _ _ hok)) (by show 1 ≤ 2; omega) hrest
    by_cases k2 : a < -1152921504606846976
    · have sa : satH a = true := sat_t (by omega)
      have eF : flH a b = true := by unfold flH; rw [sa]; simp
      have e3 : (false || satH a) = true := by rw [sa]; rfl
      have e1 : (!(flH a b == true)) = false := by rw [eF]; rfl
      have e2 : (!(flH a b)) = false := by rw [eF]; rfl
      exact To.spineR (z := Zl) sound75 (k := 11) (slots := [2, 7, 9, 10]) (blks := [0, 1]) (vs := [SLX 0 o n c, P1v, NILs, bL (flH a b)]) (bs := [⟨ty, fr, 0, convL arr⟩, FL (flH a b)]) (nbB := 2) (by kernel_rfl) (fun dead => fp2 dead a b o n c ty fr (convL arr)) rfl rfl rfl (raQ (n := 1) e1 (raQ (n := 5) e2 (raT (n := 3) k2 (raQ (n := 2) e2 (raF (n := 3) k1 (raQ (n := 7) e2 (raQ (n := 6) e3 (raF (n := 1) c1 raZ)))))))) (kst_ok rfl (mem2_ok ty fr _ _ hok)) (by show 1 ≤ 2; omega) hrest
    by_cases k3 : b > 1152921504606846976
    · have sa : satH a = false := sat_f (by omega) (by omega)
      have sb : satH b = true := sat_t (by omega)
      have eF : flH a b = true := by unfold flH; rw [sa, sb]; rfl
      have e3 : (false || satH a) = false := by rw [sa]; rfl
      have e1 : (!(flH a b == true)) = false := by rw [eF]; rfl
      exact To.spineR (z := Zl) sound75 (k := 11) (slots := [2, 7, 9, 10]) (blks := [0, 1]) (vs := [SLX 0 o n c, P1v, NILs, bL (flH a b)]) (bs := [⟨ty, fr, 0, convL arr⟩, FL (flH a b)]) (nbB := 2) (by kernel_rfl) (fun dead => fp3 dead a b o n c ty fr (convL arr)) rfl rfl rfl (raQ (n := 1) e1 (raT (n := 3) k3 (raF (n := 3) k2 (raF (n := 3) k1 (raQ (n := 6) e3 (raF (n := 1) c1 raZ)))))) (kst_ok rfl (mem2_ok ty fr _ _ hok)) (by show 1 ≤ 2; omega) hrest
    by_cases k4 : b < -1152921504606846976
    · have sa : satH a = false := sat_f (by omega) (by omega)
      have sb : satH b = true := sat_t (by omega)
      have eF : flH a b = true := by unfold flH; rw [sa, sb]; rfl
      have e3 : (false || satH a) = false := by rw [sa]; rfl
      have e1 : (!(flH a b == decide (b < -1152921504606846976))) = false := by rw [eF, decide_eq_true k4]; rfl
      exact To.spineR (z := Zl) sound75 (k := 11) (slots := [2, 7, 9, 10]) (blks := [0, 1]) (vs := [SLX 0 o n c, P1v, NILs, bL (flH a b)]) (bs := [⟨ty, fr, 0, convL arr⟩, FL (flH a b)]) (nbB := 2) (by kernel_rfl) (fun dead => fp4 dead a b o n c ty fr (convL arr)) rfl rfl rfl (raQ (n := 1) e1 (raF (n := 3) k3 (raF (n := 3) k2 (raF (n := 3) k1 (raQ (n := 6) e3 (raF (n := 1) c1 raZ)))))) (kst_ok rfl (mem2_ok ty fr _ _ hok)) (by show 1 ≤ 2; omega) hrest
    have sa : satH a = false := sat_f (by omega) (by omega)
    have sb : satH b = false := sat_f (by omega) (by omega)
    have eF : flH a b = false := by unfold flH; rw [sa, sb, cl0]; rfl
    have e3 : (false || satH a) = false := by rw [sa]; rfl
    have e1 : (!(flH a b == decide (b < -1152921504606846976))) = false := by rw [eF, decide_eq_false k4]; rfl
    exact To.spineR (z := Zl) sound75 (k := 11) (slots := [2, 7, 9, 10]) (blks := [0, 1]) (vs := [SLX 0 o n c, P1v, NILs, bL (flH a b)]) (bs := [⟨ty, fr, 0, convL arr⟩, FL (flH a b)]) (nbB := 2) (by kernel_rfl) (fun dead => fp5 dead a b o n c ty fr (convL arr)) rfl rfl rfl (raQ (n := 1) e1 (raF (n := 3) k3 (raF (n := 3) k2 (raF (n := 3) k1 (raQ (n := 6) e3 (raF (n := 1) c1 raZ)))))) (kst_ok rfl (mem2_ok ty fr _ _ hok)) (by show 1 ≤ 2; omega) hrest
  have hz' : ∀ i b, getM ([(0, ⟨ty, fr, 0, convL arr⟩)] : Mem) i = some b → b.es = 0 := by
    intro i b hib
    obtain ⟨rfl, rfl⟩ := get1 hib
    rfl
  refine (lcl_of_To (m' := [(0, ⟨ty, fr, 0, convL arr⟩)]) (v := .v (.one (.bool true))) Try.func3 (by kernel_rfl) (Nat.le_of_ble_eq_true (by kernel_rfl)) (Nat.le_of_ble_eq_true (by kernel_rfl)) ha hm1 hT (.inr rfl) (fun dead => by kernel_rfl) rfl (fun i b hib => ?_) E w hrel).mono ?_
  · obtain ⟨rfl, rfl⟩ := get1 hib
    exact ⟨rfl, by decide, okL_mono noP_below hok⟩
  · rintro e w' ⟨rfl, hl⟩
    exact ⟨rfl, below_l hz' hrel hl⟩
theorem ff_nil (a b : Int) (E : Env) (w : World) (hrel : Rel E (getM ([] : Mem)) w) : Goal 3 ([I a, I b, NILs].map (LV.den E)).toArray w := by
  have ha : ∀ u ∈ [I a, I b, NILs], u.ok (below 1) = true := by intro u hu; simp at hu; rcases hu with rfl | rfl | rfl <;> rfl
  by_cases k1 : a > 1152921504606846976
  · have sa : satH a = true := sat_t (by omega)
    have eF : flH a b = true := by unfold flH; rw [sa]; simp
    have e3 : (false || satH a) = true := by rw [sa]; rfl
    have e1 : (!(flH a b == true)) = false := by rw [eF]; rfl
    have e2 : (!(flH a b)) = false := by rw [eF]; rfl
    exact law_mem sound75 ((fn1 a b).trans (by rw [beq_self_eq_true])) (raQ (n := 1) e1 (raQ (n := 7) e2 (raT (n := 3) k1 (raQ (n := 7) e2 (raQ (n := 6) e3 raZ))))) rfl (by simp) ha rfl E w hrel
  by_cases k2 : a < -1152921504606846976
  · have sa : satH a = true := sat_t (by omega)
    have eF : flH a b = true := by unfold flH; rw [sa]; simp
    have e3 : (false || satH a) = true := by rw [sa]; rfl
    have e1 : (!(flH a b == true)) = false := by rw [eF]; rfl
    have e2 : (!(flH a b)) = false := by rw [eF]; rfl
    exact law_mem sound75 ((fn2 a b).trans (by rw [beq_self_eq_true])) (raQ (n := 1) e1 (raQ (n := 5) e2 (raT (n := 3) k2 (raQ (n := 2) e2 (raF (n := 3) k1 (raQ (n := 7) e2 (raQ (n := 6) e3 raZ))))))) rfl (by simp) ha rfl E w hrel
  by_cases k3 : b > 1152921504606846976
  · have sa : satH a = false := sat_f (by omega) (by omega)
    have sb : satH b = true := sat_t (by omega)
    have eF : flH a b = true := by unfold flH; rw [sa, sb]; rfl
    have e3 : (false || satH a) = false := by rw [sa]; rfl
    have e1 : (!(flH a b == true)) = false := by rw [eF]; rfl
    exact law_mem sound75 ((fn3 a b).trans (by rw [beq_self_eq_true])) (raQ (n := 1) e1 (raT (n := 3) k3 (raF (n := 3) k2 (raF (n := 3) k1 (raQ (n := 6) e3 raZ))))) rfl (by simp) ha rfl E w hrel
  by_cases k4 : b < -1152921504606846976
  · have sa : satH a = false := sat_f (by omega) (by omega)
    have sb : satH b = true := sat_t (by omega)
    have eF : flH a b = true := by unfold flH; rw [sa, sb]; rfl
    have e3 : (false || satH a) = false := by rw [sa]; rfl
    have e1 : (!(flH a b == decide (b < -1152921504606846976))) = false := by rw [eF, decide_eq_true k4]; rfl
    exact law_mem sound75 ((fn4 a b).trans (by rw [beq_self_eq_true])) (raQ (n := 1) e1 (raF (n := 3) k3 (raF (n := 3) k2 (raF (n := 3) k1 (raQ (n := 6) e3 raZ))))) rfl (by simp) ha rfl E w hrel
  have sa : satH a = false := sat_f (by omega) (by omega)
  have sb : satH b = false := sat_f (by omega) (by omega)
  have eF : flH a b = false := by unfold flH; rw [sa, sb, cl0]; rfl
  have e3 : (false || satH a) = false := by rw [sa]; rfl
  have e1 : (!(flH a b == decide (b < -1152921504606846976))) = false := by rw [eF, decide_eq_false k4]; rfl
  exact law_mem sound75 ((fn5 a b).trans (by rw [beq_self_eq_true])) (raQ (n := 1) e1 (raF (n := 3) k3 (raF (n := 3) k2 (raF (n := 3) k1 (raQ (n := 6) e3 raZ))))) rfl (by simp) ha rfl E w hrel
theorem lawFxFlags (a b : Int) (p : Option Addr) (la ca : Nat) (w : World) (B1 : IsBlk w p) (w1 : IsRowB w p la ca) : Goal 3 #[.int .i64 a, .int .i64 b, .slice p la ca] w := by
  rcases row_inB B1 w1 with ⟨rfl, rfl, rfl⟩ | ⟨b1, o1, arr1, ty1, fr1, rfl, hh1, hl1, -, -, r1⟩
  · exact ff_nil a b E0 w ⟨fun i b h => by simp [getM] at h, fun i j h => by simp [getM] at h⟩
  · exact ff_row a b (o := o1) (n := la) (c := ca) hl1 r1 (envB b1 0) w (rel_one hh1)
end Go.Proofs.Ytnabopepomjncaa
