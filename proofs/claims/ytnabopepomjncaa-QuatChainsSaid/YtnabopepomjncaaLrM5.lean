/- Joined texts. What each part proves stands ahead of it; no condition. -/
import Derived.Test.YtnabopepomjncaaLrM4

/- The law QuatChains: its runs, and why they answer true. -/
namespace Go.Proofs.Ytnabopepomjncaa
open Go.Lr Go.RowKit
set_option linter.unusedVariables false

def qcX (l : List At) (o n : Nat) : List Int := intL (List.take ((0 + n) * 4) (List.take (n * 4) (List.drop o l)))
theorem qca (dead : Nat → Value) (o n c : Nat) (ty : TypeId) (fr : Nat × Nat) (es : Nat) (l : List At) : projS [0,3,4,5] [0,1,2,3] (execL Try.prog S59 Zl 400 (spineL 6 (bodyF Try.prog 8)) (Kst.st ⟨argsL 0 [SLX 0 o n c], [(0, ⟨ty, fr, es, l⟩)], 1⟩ 48 dead [none, some false])) = some (Ex.normal, [LV.v (V1.one (At.slx 0 o n c)), LV.v (V1.one (At.ptr 1 0)), LV.v (V1.one (At.ptr 2 0)), LV.v (V1.one (At.ptr 3 0))], [some { ty := ty, fr := fr, es := es, cells := l }, some { ty := 26, fr := (0, 0), es := 0, cells := [At.bool false] }, some { ty := 26, fr := (0, 0), es := 0, cells := [At.bool false] }, some { ty := 48, fr := (0, 0), es := 0, cells := [At.int IntKind.i64 1073741824, At.int IntKind.i64 0, At.int IntKind.i64 0, At.int IntKind.i64 0] }], [(decide ((n : Int) > 30), false)]) := by kernel_rfl
theorem qcb (dead : Nat → Value) (o n c : Nat) (ty : TypeId) (fr : Nat × Nat) (es : Nat) (l : List At) (q0 q1 q2 q3 : Int) (hb hc : Bool) : projS [0,3,4,5,6] [0,1,2,3] (exec Try.prog S59 Zl 400 (.code (c1 (c1 (c2 (c2 (c2 (c2 (c2 (c2 (bodyF Try.prog 8)))))))))) (Kst.st ⟨[(0, SLX 0 o n c), (3, .v (.one (.ptr 1 0))), (4, .v (.one (.ptr 2 0))), (5, .v (.one (.ptr 3 0)))], [(0, ⟨ty, fr, es, l⟩), (1, flag 26 hc), (2, flag 26 hb), (3, qB q0 q1 q2 q3)], 4⟩ 48 dead [])) = some (Ex.normal, [LV.v (V1.one (At.slx 0 o n c)), LV.v (V1.one (At.ptr 1 0)), LV.v (V1.one (At.ptr 2 0)), LV.v (V1.one (At.ptr 3 0)), LV.v (V1.one (At.int IntKind.i64 0))], [some { ty := ty, fr := fr, es := es, cells := l }, some { ty := 26, fr := (0, 0), es := 0, cells := [At.bool hc] }, some { ty := 26, fr := (0, 0), es := 0, cells := [At.bool hb] }, some { ty := 48, fr := (0, 0), es := 0, cells := [At.int IntKind.i64 q0, At.int IntKind.i64 q1, At.int IntKind.i64 q2, At.int IntKind.i64 q3] }], []) := by kernel_rfl
theorem qcc (dead : Nat → Value) (o n c : Nat) (ty : TypeId) (fr : Nat × Nat) (es : Nat) (l : List At) (q0 q1 q2 q3 : Int) (hb hc : Bool) (i : Int) : projS [0,3,4,5,6] [0,1,2,3] (exec Try.prog S59 Zl 400 (.code (c1 (c1 (c2 (c1 (c2 (c2 (c2 (c2 (c2 (c2 (bodyF Try.prog 8)))))))))))) (Kst.st ⟨[(0, SLX 0 o n c), (3, .v (.one (.ptr 1 0))), (4, .v (.one (.ptr 2 0))), (5, .v (.one (.ptr 3 0))), (6, I i)], [(0, ⟨ty, fr, es, l⟩), (1, flag 26 hc), (2, flag 26 hb), (3, qB q0 q1 q2 q3)], 4⟩ 48 dead [some true])) = some (Ex.normal, [SLX 0 o n c, .v (.one (.ptr 1 0)), .v (.one (.ptr 2 0)), .v (.one (.ptr 3 0)), I (wr IntKind.i64 (i + 1))], [some ⟨ty, fr, es, l⟩, some (flag 26 hc), some (flag 26 (hb || mH q0 q1 q2 q3 (intAt l (o + i.toNat * 4)) (intAt l (o + i.toNat * 4 + 1)) (intAt l (o + i.toNat * 4 + 1 + 1)) (intAt l (o + i.toNat * 4 + 1 + 1 + 1)))), some (qB (m0 q0 q1 q2 q3 (intAt l (o + i.toNat * 4)) (intAt l (o + i.toNat * 4 + 1)) (intAt l (o + i.toNat * 4 + 1 + 1)) (intAt l (o + i.toNat * 4 + 1 + 1 + 1))) (m1 q0 q1 q2 q3 (intAt l (o + i.toNat * 4)) (intAt l (o + i.toNat * 4 + 1)) (intAt l (o + i.toNat * 4 + 1 + 1)) (intAt l (o + i.toNat * 4 + 1 + 1 + 1))) (m2 q0 q1 q2 q3 (intAt l (o + i.toNat * 4)) (intAt l (o + i.toNat * 4 + 1)) (intAt l (o + i.toNat * 4 + 1 + 1)) (intAt l (o + i.toNat * 4 + 1 + 1 + 1))) (m3 q0 q1 q2 q3 (intAt l (o + i.toNat * 4)) (intAt l (o + i.toNat * 4 + 1)) (intAt l (o + i.toNat * 4 + 1 + 1)) (intAt l (o + i.toNat * 4 + 1 + 1 + 1))))], [(areInts l (o + i.toNat * 4) 4 && true, true), (decide (0 ≤ i) && decide (i < (n : Int)), true), (decide (i < (n : Int)), true)]) := by kernel_rfl
theorem qcd (dead : Nat → Value) (o n c : Nat) (ty : TypeId) (fr : Nat × Nat) (es : Nat) (l : List At) (q0 q1 q2 q3 : Int) (hb hc : Bool) (i : Int) : projS [0,3,4,5] [0,1,2,3] (exec Try.prog S59 Zl 400 (.code (c1 (c1 (c2 (c1 (c2 (c2 (c2 (c2 (c2 (c2 (bodyF Try.prog 8)))))))))))) (Kst.st ⟨[(0, SLX 0 o n c), (3, .v (.one (.ptr 1 0))), (4, .v (.one (.ptr 2 0))), (5, .v (.one (.ptr 3 0))), (6, I i)], [(0, ⟨ty, fr, es, l⟩), (1, flag 26 hc), (2, flag 26 hb), (3, qB q0 q1 q2 q3)], 4⟩ 48 dead [some false])) = some (Ex.exit 0, [LV.v (V1.one (At.slx 0 o n c)), LV.v (V1.one (At.ptr 1 0)), LV.v (V1.one (At.ptr 2 0)), LV.v (V1.one (At.ptr 3 0))], [some { ty := ty, fr := fr, es := es, cells := l }, some { ty := 26, fr := (0, 0), es := 0, cells := [At.bool hc] }, some { ty := 26, fr := (0, 0), es := 0, cells := [At.bool hb] }, some { ty := 48, fr := (0, 0), es := 0, cells := [At.int IntKind.i64 q0, At.int IntKind.i64 q1, At.int IntKind.i64 q2, At.int IntKind.i64 q3] }], [(decide (i < (n : Int)), false)]) := by kernel_rfl
theorem qce (dead : Nat → Value) (o n c : Nat) (ty : TypeId) (fr : Nat × Nat) (es : Nat) (l : List At) (q0 q1 q2 q3 : Int) (hb hc : Bool) : projS [2] [0] (exec Try.prog S59 Zl 400 (.code (c2 (c2 (c2 (c2 (c2 (c2 (c2 (bodyF Try.prog 8))))))))) (Kst.st ⟨[(0, SLX 0 o n c), (3, .v (.one (.ptr 1 0))), (4, .v (.one (.ptr 2 0))), (5, .v (.one (.ptr 3 0)))], [(0, ⟨ty, fr, es, l⟩), (1, flag 26 hc), (2, flag 26 hb), (3, qB q0 q1 q2 q3)], 4⟩ 48 dead (tt 10 []))) = some (Ex.ret, [LV.v (V1.one (At.bool (chH (qcX l o n) hc ((qcX l o n).length / 4) == hb)))], [some { ty := ty, fr := fr, es := es, cells := l }], ra 10 ((chQ (qcX l o n) ((qcX l o n).length / 4)).a == q0 && ((chQ (qcX l o n) ((qcX l o n).length / 4)).b == q1 && ((chQ (qcX l o n) ((qcX l o n).length / 4)).c == q2 && ((chQ (qcX l o n) ((qcX l o n).length / 4)).d == q3 && true))), true) (ra 1 (isIntL (List.take ((0 + n) * 4) (List.take (n * 4) (List.drop o l))) && (okL noP (List.take (n * 4) (List.drop o l)) && decide ((0 + n) * 4 ≤ (List.take (n * 4) (List.drop o l)).length)), true) (ra 1 (decide ((qcX l o n).length / 4 ≤ 1000000), true) (ra 1 (((0 + n) * 33).ble 140737488355328 && true, true) (ra 1 (decide (o + n * 4 ≤ l.length) && allCell (List.take (n * 4) (List.drop o l)), true) []))))) := by kernel_rfl
noncomputable def qcBd : Code := c2 (c2 (c2 (c2 (c2 (c2 (bodyF Try.prog 8))))))
def P1' : LV := .v (.one (.ptr 1 0))
def qcA (k : Blk) (o n c : Nat) (h : Bool) (q : Qd) (i : Int) : Kst := ⟨[(0, SLX 0 o n c), (3, P1'), (4, P2'), (5, P3'), (6, I i)], [(0, k), (1, flag 26 false), (2, flag 26 h), (3, qB q.a q.b q.c q.d)], 4⟩
def qcE (k : Blk) (o n c : Nat) (h : Bool) (q : Qd) : Kst := ⟨[(0, SLX 0 o n c), (3, P1'), (4, P2'), (5, P3')], [(0, k), (1, flag 26 false), (2, flag 26 h), (3, qB q.a q.b q.c q.d)], 4⟩
theorem qcStep (k : Blk) (o n c : Nat) (xs : List Int) (hk : SlAt 4 k o n xs) (hn : n ≤ 1000000) (i : Nat) (hi : i < n) :
    To Try.prog 48 (c1 (c1 (c2 (c1 qcBd)))) (qcA k o n c (chH xs false i) (chQ xs i) i) .normal (qcA k o n c (chH xs false (i + 1)) (chQ xs (i + 1)) ((i : Int) + 1)) := by
  obtain ⟨hlen, hat, hok⟩ := hk
  obtain ⟨g0, g1, g2, g3, g4⟩ := four_at (i := i) hat (by omega)
  have e3 : ((i : Int)).toNat * 4 = i * 4 := by simp
  have e4 : wr .i64 ((i : Int) + 1) = (i : Int) + 1 := w64_in (by omega) (by omega)
  obtain ⟨ty, fr, es, l⟩ := k
  refine To.run (z := Zl) sound59 (slots := [0, 3, 4, 5, 6]) (blks := [0, 1, 2, 3]) (vs := [SLX 0 o n c, P1', P2', P3', I ((i : Int) + 1)])
    (bs := [⟨ty, fr, es, l⟩, flag 26 false, flag 26 (chH xs false (i + 1)), qB (chQ xs (i + 1)).a (chQ xs (i + 1)).b (chQ xs (i + 1)).c (chQ xs (i + 1)).d]) (nbB := 4)
    (fun dead => qcc dead o n c ty fr es l (chQ xs i).a (chQ xs i).b (chQ xs i).c (chQ xs i).d (chH xs false i) false i) rfl (by rw [e4]; rfl) (by rw [e3, g0, g1, g2, g3]; rfl) ?_ (kst_ok rfl (memOK4 (Nat.le_refl _) (okL_mono noP_below hok) rfl rfl rfl)) (Nat.le_refl _)
  rw [e3, g4]
  simp only [all_tt, Bool.and_eq_true, decide_eq_true_eq]
  exact ⟨⟨trivial, trivial⟩, ⟨by omega, by omega⟩, by omega, ae_nil⟩
theorem qcEnd (k : Blk) (o n c : Nat) (hok : okL noP k.cells = true) (h : Bool) (q : Qd) : To Try.prog 48 (c1 (c1 (c2 (c1 qcBd)))) (qcA k o n c h q n) (.exit 0) (qcE k o n c h q) := by
  obtain ⟨ty, fr, es, l⟩ := k
  refine To.exec (z := Zl) sound59 (slots := [0, 3, 4, 5]) (blks := [0, 1, 2, 3]) (vs := [SLX 0 o n c, P1', P2', P3']) (bs := [⟨ty, fr, es, l⟩, flag 26 false, flag 26 h, qB q.a q.b q.c q.d]) (nbB := 4) (fun dead => qcd dead o n c ty fr es l q.a q.b q.c q.d h false n) ?_ (kst_ok rfl (memOK4 (Nat.le_refl _) (okL_mono noP_below hok) rfl rfl rfl)) (Nat.le_refl _)
  simp
theorem qcRd (k : Blk) (o n c : Nat) (xs : List Int) (hk : SlAt 4 k o n xs) (hn : n ≤ 1000000) : ∀ (m i : Nat), i + m = n →
    Rd Try.prog 48 (c1 (c1 (c2 (c1 qcBd)))) (m + 1) (qcA k o n c (chH xs false i) (chQ xs i) i) (.exit 0) (qcE k o n c (chH xs false n) (chQ xs n))
  | 0, i, h => by
    have hi : i = n := by omega
    subst hi
    exact Rd.last (by simp) (qcEnd k o i c hk.2.2 _ _)
  | m + 1, i, h => Rd.next (qcStep k o n c xs hk hn i (by omega)) (qcRd k o n c xs hk hn m (i + 1) (by omega))
theorem qcL (o n c : Nat) (ty : TypeId) (fr : Nat × Nat) (l : List At) : (runF Try.prog S59 Zl 4000 8 [SLX 0 o n c] [(0, ⟨ty, fr, 0, l⟩)] 1 [none, some true]).map (fun r => (r.1, ([(0, ⟨ty, fr, 0, l⟩)] : Mem).map (fun q => getM r.2.1 q.1), r.2.2.2)) = some (.v (.one (.bool true)), ([(0, ⟨ty, fr, 0, l⟩)] : Mem).map (fun q => some q.2), [(decide ((n : Int) > 30), true)]) := by kernel_rfl
theorem qcN : (runF Try.prog S59 Zl 4000 8 [.v (.one .nilsl)] [] 0 []).map (fun r => (r.1, r.2.2.2)) = some (.v (.one (.bool true)), [(true, true)]) := by kernel_rfl
theorem qc_main {o n c : Nat} {ty : TypeId} {fr : Nat × Nat} {arr : Array Value} {zs : List Int} (hr : RowL arr o (c * 4) zs) (hnc : n ≤ c) (hn : n ≤ 30) (E : Env) (w : World) (hrel : Rel E (getM [(0, blkOf arr ty fr)]) w) :
    Calls Try.prog 8 ([SLX 0 o n c].map (LV.den E)).toArray w fun e w' => e = .returned (.bool true) ∧ Below w.heap.size w w' := by
  have hle := hr.le
  have hlen := hr.len
  have hcut := hr.cut (p := 0) (n := n * 4) (by omega)
  rw [Nat.add_zero, List.drop_zero] at hcut
  have hxl : (zs.take (n * 4)).length = n * 4 := by rw [List.length_take]; omega
  have hX : qcX (convL arr) o n = zs.take (n * 4) := by
    unfold qcX
    rw [hcut, Nat.zero_add, List.take_of_length_le (by rw [List.length_map, hxl]; omega), intL_map]
  have hk : SlAt 4 (blkOf arr ty fr) o n (zs.take (n * 4)) := by
    refine ⟨hxl, fun j hj => ?_, convL_ok _ _⟩
    rw [hxl] at hj
    have h1 := hr.atL (i := j) (by omega)
    rw [atL_eq]
    show (convL arr)[o + j]? = _
    rw [h1, List.getElem_take, List.getD_eq_getElem?_getD, List.getElem?_eq_getElem (by omega)]
    rfl
  have hR := qcRd (blkOf arr ty fr) o n c _ hk (by omega) n 0 (by omega)
  have hok : okL noP (convL arr) = true := convL_ok _ _
  generalize hxs : zs.take (n * 4) = xs at *
  refine (lcl_of_To (c := bodyF Try.prog 8) (e := .ret) (m := [(0, blkOf arr ty fr)]) (m' := [(0, blkOf arr ty fr)]) (nb := 1) (v := .v (.one (.bool true))) (B := ⟨[(2, .v (.one (.bool true)))], [(0, blkOf arr ty fr)], 4⟩) Try.func8 (by kernel_rfl) (Nat.le_of_ble_eq_true (by kernel_rfl)) (Nat.le_of_ble_eq_true (by kernel_rfl))
    (fun u hu => ?_) (memOK1 (Nat.le_refl _) (okL_mono noP_below hok)) ?_ (.inr rfl) (fun dead => by kernel_rfl) rfl (fun i b hib => ?_) E w hrel).mono ?_
  · simp only [List.mem_cons, List.not_mem_nil, or_false] at hu
    rcases hu with rfl; rfl
  · refine To.spineR (z := Zl) sound59 (k := 6) (slots := [0, 3, 4, 5]) (blks := [0, 1, 2, 3]) (vs := [SLX 0 o n c, P1', P2', P3']) (bs := [blkOf arr ty fr, flag 26 false, flag 26 false, qB 1073741824 0 0 0]) (nbB := 4) (by kernel_rfl) (fun dead => qca dead o n c ty fr 0 (convL arr)) rfl rfl rfl (ae_cons (decide_eq_false (by omega)) ae_nil) (kst_ok rfl (memOK4 (Nat.le_refl _) (okL_mono noP_below hok) rfl rfl rfl)) (show 1 ≤ 4 by omega) ?_
    refine To.seq (by kernel_rfl) (To.seq (by kernel_rfl) (To.run (z := Zl) sound59 (slots := [0, 3, 4, 5, 6]) (blks := [0, 1, 2, 3]) (vs := [SLX 0 o n c, P1', P2', P3', I 0]) (bs := [blkOf arr ty fr, flag 26 false, flag 26 false, qB 1073741824 0 0 0]) (nbB := 4) (fun dead => qcb dead o n c ty fr 0 (convL arr) 1073741824 0 0 0 false false) rfl rfl rfl (by simp) (kst_ok rfl (memOK4 (Nat.le_refl _) (okL_mono noP_below hok) rfl rfl rfl)) (Nat.le_refl _))
      (To.block (id := 0) (by kernel_rfl) (To.loop (m := n + 1) (by kernel_rfl) ?_) (.inl rfl))) (C := _) (B := qcE (blkOf arr ty fr) o n c (chH xs false n) (chQ xs n)) ?_
    · exact hR
    · refine To.run (z := Zl) sound59 (slots := [2]) (blks := [0]) (vs := [.v (.one (.bool true))]) (bs := [blkOf arr ty fr]) (nbB := 4) (fun dead => qce dead o n c ty fr 0 (convL arr) (chQ xs n).a (chQ xs n).b (chQ xs n).c (chQ xs n).d (chH xs false n) false) rfl ?_ rfl ?_ (kst_ok rfl (memOK1 (show 1 ≤ 4 by omega) (okL_mono noP_below hok))) (Nat.le_refl _)
      · rw [hX, hxl, Nat.mul_div_cancel n (by omega)]; simp
      · rw [hX, hxl, Nat.mul_div_cancel n (by omega), hcut, Nat.zero_add, List.take_of_length_le (l := List.map (At.int .i64) xs) (by rw [List.length_map, hxl]; omega), isIntL_map]
        have ho : okL noP (xs.map (At.int .i64)) = true := by
          have := okL_map noP (xs.map (Value.int .i64))
          rw [List.map_map] at this
          exact this
        refine ra_ok (by simp) (ra_ok (by simp only [ho, List.length_map, hxl]; simp) (ra_ok (by simp; omega) (ra_ok ?_ (ra_ok ?_ (by simp) _) _) _) _) _
        · have : Nat.ble ((0 + n) * 33) 140737488355328 = true := Nat.ble_eq_true_of_le (by omega)
          rw [Nat.zero_add] at this
          simp only [this]; rfl
        · rw [allCell_map, convL_len, decide_eq_true (by omega)]; rfl
  · obtain ⟨rfl, rfl⟩ := get1 hib
    exact ⟨rfl, by decide, okL_mono noP_below hok⟩
  · rintro e w' ⟨rfl, hl⟩
    exact ⟨rfl, below_lcl (fun i b hib => by obtain ⟨-, rfl⟩ := get1 hib; rfl) hrel hl⟩
theorem lawQuatChains (a : Option Addr) (n c : Nat) (zs : List Int) (w : World) (B : IsBlk w a) (h : IsRowM 4 w a n c zs) :
    Calls Try.prog 8 #[.slice a n c] w fun e w' => e = .returned (.bool true) ∧ Below w.heap.size w w' := by
  rcases row_inM B h with ⟨rfl, rfl, rfl, -⟩ | ⟨b, o, arr, ty, fr, rfl, hh, hl, -, hr⟩
  · exact law_true sound59 qcN rfl (by simp) rfl w
  · have hrel : Rel (fun _ => (b, 0)) (getM [(0, blkOf arr ty fr)]) w := by
      refine ⟨fun i k hk => ?_, fun i j hi hj _ => ?_⟩
      · obtain ⟨rfl, rfl⟩ := get1 hk
        exact blkOf_at rfl hh
      · obtain ⟨x, hx⟩ := Option.isSome_iff_exists.1 hi
        obtain ⟨y, hy⟩ := Option.isSome_iff_exists.1 hj
        rw [(get1 hx).1, (get1 hy).1]
    by_cases hn : n ≤ 30
    · exact qc_main hr hl hn (fun _ => (b, 0)) w hrel
    · exact law_mem sound59 (qcL o n c ty fr (convL arr)) (ae_cons (decide_eq_true (by omega)) ae_nil) (memOK1 (Nat.le_refl _) (okL_mono noP_below (convL_ok _ _))) (fun q hq => by simp at hq; rcases hq with rfl; rfl) (fun u hu => by simp at hu; rcases hu with rfl; rfl) rfl (fun _ => (b, 0)) w hrel
end Go.Proofs.Ytnabopepomjncaa
