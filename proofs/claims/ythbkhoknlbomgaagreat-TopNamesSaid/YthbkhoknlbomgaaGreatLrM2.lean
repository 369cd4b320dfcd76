/- Joined texts. What each part proves stands ahead of it; no condition. -/
import Derived.Test.YthbkhoknlbomgaaGreatLrM1
import Derived.LoopN
import Derived.Laws.Externs
import Derived.KernelRfl

/- The local evaluator: every operation, and calls that are told of. -/
namespace Go.Lr
open Go.RowKit
def pn (p : Nat → Bool) (nb k : Nat) : Nat → Bool := fun i => p i || (decide (nb ≤ i) && decide (i < nb + k))
theorem pn_of {p : Nat → Bool} {nb k i : Nat} (h : p i = true) : pn p nb k i = true := by simp [pn, h]
structure OkD (p : Nat → Bool) (g : Nat → Option Blk) (nb : Nat) (d : Dl) : Prop where
  val : d.val.ok (pn p nb d.nw.length) = true
  wr : ∀ x ∈ d.wr, ∀ b, x.2 = some b → okL (pn p nb d.nw.length) b.cells = true
  nw : okBs (pn p nb d.nw.length) d.nw = true
  live : ∀ x ∈ d.wr, (g x.1).isSome
  nd : (d.wr.map (·.1)).Nodup
theorem OkD.plain {p : Nat → Bool} {g : Nat → Option Blk} {nb : Nat} {d : Dl} (h1 : d.wr = []) (h2 : d.nw = []) (hv : d.val.ok p = true) : OkD p g nb d :=
  ⟨LV.ok_mono (fun _ h => pn_of h) hv, by simp [h1], by simp [h2, okBs], by simp [h1], by simp [h1]⟩
theorem OkD.val1 {p : Nat → Bool} {g : Nat → Option Blk} {nb : Nat} {d : Dl} {x : At} (h : val1 x = some d) (hx : x.ok p = true) : OkD p g nb d := by
  cases h; exact .plain rfl rfl hx
theorem OkD.ask {p : Nat → Bool} {g : Nat → Option Blk} {nb : Nat} {d : Dl} {x : At} {kn b : Bool} (h : (ask kn b false fun cs => some ⟨.v (.one x), [], [], [], cs⟩) = some d) (hx : x.ok p = true) : OkD p g nb d := by
  unfold Go.Lr.ask at h
  cases kn <;> cases b <;> simp at h
  · cases h; exact .plain rfl rfl hx
  · cases h; exact .plain rfl rfl hx
  · cases h; exact .plain rfl rfl hx
section
variable {P : Program} {E : Env} {τ : Nat → LV} {a : Act} {w : World} {g : Nat → Option Blk} {nb : Nat} {p : Nat → Bool}
theorem binII_ok {op : BinOp} {k k' : IntKind} {x y : Int} {kn : Bool} {d : Dl} (h : binII op k x k' y kn = some d) : OkD p g nb d := by
  unfold binII at h
  split at h
  · exact .ask h rfl
  · exact .ask h rfl
  · split at h
    · unfold binI at h
      split at h <;> first
        | exact .val1 h rfl
        | exact .ask h rfl
        | (split at h <;> first | exact .val1 h rfl | cases h)
    · cases h
theorem unD_ok {op : UnOp} {x : LV} {d : Dl} (h : unD op x = some d) : OkD p g nb d := by
  unfold unD at h
  split at h
  · exact .val1 h rfl
  · split at h
    · exact .val1 h rfl
    · cases h
  · exact .val1 h rfl
  · cases h
theorem convD_ok {t u : TypeId} {x : LV} {d : Dl} (h : convD P t u x = some d) : OkD p g nb d := by
  unfold convD at h
  split at h
  · exact .val1 h rfl
  · cases h
theorem fieldD_ok {t : TypeId} {x : LV} {i : Nat} {d : Dl} (h : fieldD P t x i = some d) (hx : x.ok p = true) : OkD p g nb d := by
  unfold fieldD at h
  split at h
  · split at h
    · split at h
      · rename_i v hv
        cases h
        exact .plain rfl rfl (partV_ok hv hx)
      · cases h
    · cases h
  · cases h
theorem indexD_ok {t : TypeId} {x ix : LV} {d : Dl} (h : indexD P t x ix = some d) (hx : x.ok p = true) : OkD p g nb d := by
  unfold indexD at h
  split at h
  · split at h
    · split at h
      · rename_i v hv
        cases h
        exact .plain rfl rfl (partV_ok hv hx)
      · cases h
    · cases h
  · cases h
theorem extractD_ok {x : LV} {i : Nat} {d : Dl} (h : extractD x i = some d) (hx : x.ok p = true) : OkD p g nb d := by
  unfold extractD at h
  split at h
  · obtain ⟨v, hv, rfl⟩ := extractD_nth_spec h
    exact .plain rfl rfl (okVs_iff.1 hx v (List.mem_of_getElem? hv))
  · cases h
theorem fieldAddrD_ok {t : TypeId} {x : LV} {i : Nat} {d : Dl} (h : fieldAddrD P t x i = some d) (hx : x.ok p = true) : OkD p g nb d := by
  unfold fieldAddrD at h
  split at h
  · split at h
    · split at h
      · exact .val1 h hx
      · cases h
    · cases h
  · split at h
    · split at h
      · exact .val1 h hx
      · cases h
    · cases h
  · cases h
theorem arrPtrD_ok {t : TypeId} {x : LV} {d : Dl} (h : arrPtrD P t x = some d) (hx : x.ok p = true) : OkD p g nb d := by
  unfold arrPtrD at h
  split at h
  · split at h
    · exact .val1 h hx
    · cases h
  · cases h
theorem indexAddrD_ok {t : TypeId} {x ix : LV} {d : Dl} (h : indexAddrD P t x ix = some d) (hx : x.ok p = true) : OkD p g nb d := by
  unfold indexAddrD at h
  split at h
  · split at h
    · exact .val1 h hx
    · cases h
  · split at h
    · exact .val1 h hx
    · cases h
  · split at h
    · exact .val1 h hx
    · cases h
  · split at h
    · cases h; exact .plain rfl rfl hx
    · cases h
  · split at h
    · cases h; exact .plain rfl rfl hx
    · cases h
  · cases h
theorem sliceD_ok {t : TypeId} {x : LV} {lo hi : Option LV} {d : Dl} (h : sliceD P t x lo hi = some d) (hx : x.ok p = true) : OkD p g nb d := by
  unfold sliceD at h
  split at h
  · split at h
    · split at h
      · split at h <;> exact .val1 h hx
      · cases h
    · cases h
  · split at h
    · split at h
      · split at h <;> exact .val1 h hx
      · cases h
    · cases h
  · split at h
    · unfold sliceXD at h
      split at h
      · cases h; exact .plain rfl rfl hx
      · cases h
    · cases h
  · split at h
    · split at h
      · exact .val1 h rfl
      · cases h
    · cases h
  · split at h
    · split at h
      · split at h <;> exact .val1 h hx
      · cases h
    · cases h
  · cases h
theorem sliceU_ok {t : TypeId} {c : Bool} {b n : Nat} {lo hi : Option LV} {d : Dl} (hg : ∀ i c, g i = some c → p i = true ∧ okL p c.cells = true) (h : sliceU P g nb t c b n lo hi = some d) : OkD p g nb d := by
  unfold sliceU at h
  split at h
  · split at h
    · rename_i s ty es l hs hk
      have hb := (hg b _ hk).1
      split at h
      · split at h
        · cases h; exact .plain rfl rfl hb
        · split at h
          · cases h
            refine ⟨by show pn p nb 1 nb = true; unfold pn; simp, fun x hx c hc => ?_, ?_, fun x hx => ?_, by simp⟩
            · rw [List.mem_singleton] at hx; subst hx; cases hc
            · refine okBs_iff.2 fun x hx => ?_
              rw [List.mem_singleton] at hx
              subst hx
              exact okL_mono (fun _ h => pn_of h) (okL_iff.2 fun a ha => okL_iff.1 (hg b _ hk).2 a (List.mem_of_mem_drop ha))
            · rw [List.mem_singleton] at hx; subst hx; simp [hk]
          · split at h
            · cases h; exact .plain rfl rfl hb
            · cases h
        · cases h
      · cases h
    · cases h
  · cases h
theorem slice3_ok {t : TypeId} {x : LV} {lo : Option LV} {hi mx : LV} {d : Dl} (h : slice3 P g t x lo hi mx = some d) (hx : x.ok p = true) : OkD p g nb d := by
  unfold slice3 at h
  split at h
  · split at h
    · split at h
      · split at h
        · split at h
          · exact .val1 h rfl
          · cases h
        · cases h
      · cases h
    · split at h
      · split at h
        · split at h
          · split at h <;> exact .val1 h hx
          · cases h
        · cases h
      · cases h
    · split at h
      · split at h
        · split at h
          · split at h
            · split at h <;> (cases h; exact .plain rfl rfl hx)
            · cases h
          · cases h
        · cases h
      · cases h
    · cases h
  · cases h
theorem sluOf_spec {x : LV} {b n : Nat} (h : sluOf x = some (b, n)) : x = .v (.one (.slu b n)) := by
  unfold sluOf at h
  split at h
  · cases h; rfl
  · cases h
theorem sliceM_ok {t : TypeId} {c : Bool} {x : LV} {lo hi mx : Option LV} {d : Dl} (hg : ∀ i c, g i = some c → p i = true ∧ okL p c.cells = true) (h : sliceM P g nb t c x lo hi mx = some d) (hx : x.ok p = true) : OkD p g nb d := by
  unfold sliceM at h
  split at h
  · split at h
    · exact slice3_ok h hx
    · cases h
  · split at h
    · exact sliceU_ok hg h
    · exact sliceD_ok h hx
theorem lenD_ok {t : TypeId} {x : LV} {d : Dl} (h : lenD P t x = some d) : OkD p g nb d := by
  unfold lenD at h
  split at h <;> first | exact .val1 h rfl | cases h
theorem minMax_ok : ∀ {mx : Bool} {l : List LV} {k : IntKind} {x : Int} {d : Dl}, minMax mx k x l = some d → OkD p g nb d := by
  intro mx l
  induction l with
  | nil => intro k x d h; simp only [minMax] at h; exact .val1 h rfl
  | cons y l ih =>
    intro k x d h
    unfold minMax at h
    split at h
    · rename_i he; cases he
    · rename_i he
      cases he
      split at h <;> exact ih h
    · cases h
theorem minMaxD_ok {mx : Bool} {l : List LV} {d : Dl} (h : minMaxD mx l = some d) : OkD p g nb d := by
  unfold minMaxD at h
  split at h
  · exact minMax_ok h
  · cases h
theorem buildD_ok {t : TypeId} {parts : List (Nat × LV)} {d : Dl} (h : buildD P t parts = some d) (hp : ∀ q ∈ parts, q.2.ok p = true) : OkD p g nb d := by
  unfold buildD at h
  split at h
  · rename_i z hz
    obtain ⟨_, _, _, h3⟩ := zeroT_spec hz default
    split at h
    · split at h
      · rename_i l _ hl
        cases h
        exact .plain rfl rfl (fillS_ok hl (h3 p) hp)
      · cases h
    · split at h
      · split at h
        · rename_i l hl
          cases h
          exact .plain rfl rfl (fillA_ok hl (h3 p) hp)
        · cases h
      · cases h
    · cases h
  · cases h
theorem makeFuncD_ok {f : Fn} {first : List Operand} {caps : List LV} {d : Dl} (h : makeFuncD f first caps = some d) (hp : ∀ v ∈ caps, v.ok p = true) : OkD p g nb d := by
  unfold makeFuncD at h
  split at h
  · rename_i l hl
    refine .val1 h ?_
    simp only [At.ok, List.all_eq_true]
    exact fun q hq => ptrsOf_ok hl hp q hq
  · cases h
theorem pickD_ok (hp : ∀ t, (τ t).ok p = true) {pd : Option Bool} {c x y : Operand} {d : Dl} (h : pickD τ pd c x y = some d) : OkD p g nb d := by
  unfold pickD at h
  split at h
  · split at h
    · split at h
      · rename_i v hv
        cases h
        exact .plain rfl rfl (ev_ok hp hv)
      · cases h
    · split at h
      · rename_i v hv
        cases h
        exact .plain rfl rfl (ev_ok hp hv)
      · cases h
    · cases h
  · cases h
theorem pn_self {p : Nat → Bool} {nb : Nat} : pn p nb 1 nb = true := by simp [pn]
theorem okd_new {p : Nat → Bool} {b : Blk} {v : LV} (hv : v.ok (pn p nb 1) = true) (hb : okL p b.cells = true) : OkD p g nb ⟨v, [], [b], [], []⟩ :=
  ⟨hv, by simp, okBs_iff.2 fun x hx => by rw [List.mem_singleton] at hx; subst hx; exact okL_mono (fun _ h => pn_of h) hb, by simp, by simp⟩
theorem allocD_ok {t : TypeId} {d : Dl} (h : allocD P nb t = some d) : OkD p g nb d := by
  unfold allocD at h
  split at h
  · rename_i l hl
    obtain ⟨_, _, _, h3⟩ := zeroT_spec hl default
    cases h
    exact okd_new pn_self (h3 p)
  · cases h
theorem boxD_ok {t : TypeId} {v : LV} {d : Dl} (h : boxD nb t v = some d) (hv : v.ok p = true) : OkD p g nb d := by
  unfold boxD at h
  split at h
  · rename_i l hl
    cases h
    exact okd_new pn_self (cellsOfV_ok hl hv)
  · cases h
theorem buildSliceD_ok {t : TypeId} {n : Nat} {parts : List (Nat × LV)} {d : Dl} (h : buildSliceD P nb t n parts = some d) (hp : ∀ q ∈ parts, q.2.ok p = true) : OkD p g nb d := by
  unfold buildSliceD at h
  split at h
  · split at h
    · rename_i s z hs hz
      obtain ⟨_, _, _, h3⟩ := zeroT_spec hz default
      split at h
      · rename_i l _ _ _ hl
        cases h
        exact okd_new pn_self (fillA_ok hl (repeatL_ok (h3 p) n) hp)
      · cases h
    · cases h
  · cases h
theorem loadD_ok {t : TypeId} {v : LV} {d : Dl} (hg : ∀ i c, g i = some c → p i = true ∧ okL p c.cells = true) (h : loadD P t v g = some d) : OkD p g nb d := by
  unfold loadD at h
  split at h
  · split at h
    · rename_i k hk
      split at h
      · rename_i x hx
        cases h
        exact .plain rfl rfl (partV_ok hx (hg _ _ hk).2)
      · cases h
    · cases h
  · cases h
theorem intsAt_ok (l : List At) : ∀ (n o : Nat), okL p (intsAt l o n) = true
  | 0, o => rfl
  | n + 1, o => by simp only [intsAt, okL, At.ok]; exact intsAt_ok l n (o + 1)
theorem partX_ok {t : TypeId} {l : List At} {o : Nat} {x : V1} {cs : List (Bool × Bool)} (h : partX P t l o = some (x, cs)) : x.ok p = true := by
  unfold partX at h
  split at h
  · split at h
    · cases h; exact intsAt_ok l _ _
    · cases h
  · split at h
    · cases h; rfl
    · cases h; rfl
    · cases h
  · cases h
theorem loadXD_ok {t : TypeId} {v : LV} {d : Dl} (hg : ∀ i c, g i = some c → p i = true ∧ okL p c.cells = true) (h : loadXD P t v g = some d) : OkD p g nb d := by
  unfold loadXD at h
  split at h
  · split at h
    · split at h
      · rename_i x cs hx
        cases h
        exact .plain rfl rfl (partX_ok hx)
      · cases h
    · cases h
  · exact loadD_ok hg h
theorem newsOf_ok {s : Nat} {x : LV} {m b : Nat} {news : List At} {cs : List (Bool × Bool)} (hg : ∀ i c, g i = some c → p i = true ∧ okL p c.cells = true) (h : newsOf g s x = some (m, news, b, cs)) : okL p news = true := by
  unfold newsOf at h
  split at h
  · split at h
    · rename_i k hk
      split at h
      · rename_i l hcut
        split at h
        · cases h; exact cut_ok hcut (hg _ k hk).2
        · cases h
      · cases h
    · cases h
  · split at h
    · rename_i k hk
      split at h
      · rename_i l hcut
        split at h
        · cases h; exact cut_ok hcut (hg _ k hk).2
        · cases h
      · cases h
    · cases h
  · split at h
    · rename_i k hk
      cases h
      exact okL_iff.2 fun a' ha' => okL_iff.1 (hg _ k hk).2 a' (List.mem_of_mem_drop (List.mem_of_mem_take ha'))
    · cases h
  · cases h
theorem oldsOf_ok {e : TypeId} {s : Nat} {x : LV} {n : Nat} {old : List At} {kill : Option Nat} (hg : ∀ i c, g i = some c → p i = true ∧ okL p c.cells = true) (h : oldsOf g e s x = some (n, old, kill)) :
    okL p old = true ∧ ∀ q, kill = some q → (g q).isSome := by
  unfold oldsOf at h
  split at h
  · cases h; exact ⟨rfl, fun q hq => by cases hq⟩
  · split at h
    · rename_i ty es l hk
      split at h
      · rename_i hcut
        cases h; exact ⟨cut_ok hcut (hg _ _ hk).2, fun q hq => by cases hq; simp [hk]⟩
      · cases h
    · cases h
  · cases h; exact ⟨rfl, fun q hq => by cases hq⟩
  · split at h
    · rename_i ty l hk
      split at h
      · cases h; exact ⟨(hg _ _ hk).2, fun q hq => by cases hq; simp [hk]⟩
      · cases h
    · cases h
  · cases h
theorem appendX_ok {ts : List TypeId} {args : List LV} {d : Dl} (hg : ∀ i c, g i = some c → p i = true ∧ okL p c.cells = true) (h : appendX P nb g ts args = some d) : OkD p g nb d := by
  unfold appendX at h
  split at h
  · split at h
    · split at h
      · split at h
        · rename_i n old kill m news b cs hold hnews
          split at h
          · cases h
            obtain ⟨h1, h2⟩ := oldsOf_ok hg hold
            have h3 := newsOf_ok hg hnews
            have hok : okL p (catL old news) = true := by
              rw [catL_eq]
              exact okL_iff.2 fun a' ha' => by
                rcases List.mem_append.1 ha' with ha' | ha'
                · exact okL_iff.1 h1 a' ha'
                · exact okL_iff.1 h3 a' ha'
            refine ⟨?_, ?_, ?_, ?_, ?_⟩
            · show pn p nb 1 nb = true
              unfold pn
              simp
            · intro x hx b hb
              cases kill with
              | none => cases hx
              | some q => simp only [killL, List.mem_singleton] at hx; subst hx; cases hb
            · simp only [okBs, okL_mono (fun _ h => pn_of h) hok]
            · intro x hx
              cases kill with
              | none => cases hx
              | some q => simp only [killL, List.mem_singleton] at hx; subst hx; exact h2 q rfl
            · cases kill <;> simp [killL]
          · cases h
        · cases h
      · cases h
    · cases h
  · cases h
theorem appendD_ok {ts : List TypeId} {args : List LV} {d : Dl} (hg : ∀ i c, g i = some c → p i = true ∧ okL p c.cells = true) (h : appendD P nb g ts args = some d) : OkD p g nb d := by
  unfold appendD at h
  split at h
  · obtain ⟨t, e, i, -, -, -, hd⟩ := appendN_spec h
    rcases hd with ⟨-, hd⟩ | ⟨b, o, n, c, k, -, hk, -, rfl⟩ | ⟨b, n, ty, es, l, -, hk, -, -, rfl⟩
    · exact .val1 hd rfl
    · exact .plain rfl rfl (hg b k hk).1
    · exact .plain rfl rfl (hg b _ hk).1
  · exact appendX_ok hg h
theorem copyD_ok {ts : List TypeId} {args : List LV} {d : Dl} (hg : ∀ i c, g i = some c → p i = true ∧ okL p c.cells = true) (h : copyD P g ts args = some d) : OkD p g nb d := by
  unfold copyD at h
  split at h
  · split at h
    · split at h
      · rename_i s ty es l k hs hk hk'
        split at h
        · rename_i r hcut
          split at h
          · rename_i l' hall hlay
            cases h
            refine ⟨rfl, fun x hx b hb => ?_, rfl, fun x hx => ?_, by simp⟩
            · rw [List.mem_singleton] at hx
              subst hx
              cases hb
              exact okL_mono (fun _ h => pn_of h) (lay_ok hlay (hg _ _ hk).2 (cut_ok hcut (hg _ _ hk').2))
            · rw [List.mem_singleton] at hx
              subst hx
              simp [hk]
          · cases h
        · cases h
      · cases h
    · cases h
  · cases h
theorem clearD_ok {ts : List TypeId} {args : List LV} {d : Dl} (hg : ∀ i c, g i = some c → p i = true ∧ okL p c.cells = true) (h : clearD P g ts args = some d) : OkD p g nb d := by
  unfold clearD at h
  split at h
  · split at h
    · split at h
      · rename_i s z ty es l hs hz hk
        split at h
        · rename_i l' _ _ _ hlay
          cases h
          obtain ⟨_, _, _, h3⟩ := zeroT_spec hz default
          refine ⟨rfl, fun x hx b hb => ?_, rfl, fun x hx => ?_, by simp⟩
          · rw [List.mem_singleton] at hx
            subst hx
            cases hb
            exact okL_mono (fun _ h => pn_of h) (lay_ok hlay (hg _ _ hk).2 (repeatL_ok (h3 p) _))
          · rw [List.mem_singleton] at hx
            subst hx
            simp [hk]
        · cases h
      · cases h
    · cases h
  · cases h
theorem storeP_ok {t : TypeId} {u v : LV} {d : Dl} (hg : ∀ i c, g i = some c → p i = true ∧ okL p c.cells = true) (hv : v.ok p = true) (h : storeP P t u v g = some d) : OkD p g nb d := by
  unfold storeP at h
  split at h
  · split at h
    · rename_i ty es l hk
      split at h
      · rename_i vs n hvs hn
        split at h
        · rename_i r hlen hlay
          cases h
          refine ⟨rfl, fun x hx b hb => ?_, rfl, fun x hx => ?_, by simp⟩
          · rw [List.mem_singleton] at hx
            subst hx
            cases hb
            exact okL_mono (fun _ h => pn_of h) (lay_ok hlay (hg _ _ hk).2 (cellsOfV_ok hvs hv))
          · rw [List.mem_singleton] at hx
            subst hx
            simp [hk]
        · cases h
      · cases h
    · cases h
  · cases h
theorem storeD_ok {t : TypeId} {u v : LV} {d : Dl} (hg : ∀ i c, g i = some c → p i = true ∧ okL p c.cells = true) (hv : v.ok p = true) (h : storeD P t u v g = some d) : OkD p g nb d := by
  unfold storeD at h
  split at h
  · split at h
    · exact storeP_ok hg hv h
    obtain ⟨ty, es, l, z, hk, rfl, hs, hz, rfl⟩ := storeX_spec h
    refine ⟨rfl, fun x hx b hb => ?_, rfl, fun x hx => ?_, by simp⟩
    · rw [List.mem_singleton] at hx
      subst hx
      cases hb
      refine okL_mono (fun _ h => pn_of h) (okL_iff.2 fun a ha => ?_)
      rcases List.mem_or_eq_of_mem_set ha with ha | rfl
      · exact okL_iff.1 (hg _ _ hk).2 a ha
      · exact hv
    · rw [List.mem_singleton] at hx
      subst hx
      simp [hk]
  · exact storeP_ok hg hv h
-- calls
def CallOK (P : Program) (f : FuncId) (args : Array Value) (w : World) (R : Value → World → Prop) : Prop :=
  (∃ fn, P.funcs[f]? = some fn ∧ fn.name ≠ "runtime.NumGoroutine" ∧ fn.body.isSome ∧ Calls P f args w fun e w' => ∃ v, e = .returned v ∧ R v w') ∨
    ∃ v w', (callFunc f args).run P w = .ok (.value v) w' ∧ R v w'
def SumOK (P : Program) (f : FuncId) (s : Sum) : Prop :=
  ∀ (args : List LV) (t : Tch) (g : Nat → Option Blk) (nb : Nat) (p : Nat → Bool) (rdB wrB : List Blk) (ans : Ans) (ws : List (Nat × Option Blk)) (E : Env) (w : World),
    s args = some t → liveAll g t.rd = some rdB → liveAll g t.wr = some wrB → nodupB t.wr = true → t.go rdB wrB nb = some ans → zipW t.wr ans.wr = some ws → (∀ c ∈ ans.cs, c.1 = c.2) →
    Rel E g w → (∀ i c, g i = some c → p i = true ∧ okL p c.cells = true) → (∀ v ∈ args, v.ok p = true) → (∀ i, nb ≤ i → i < nb + ans.nw.length → p i = false) →
    CallOK P f (args.map (LV.den E)).toArray w fun v w' => ∃ E', v = ans.val.den E' ∧ Post w E g nb ⟨ans.val, ws, ans.nw, [], []⟩ E' w'
def PeekOK (P : Program) (f : FuncId) (s : List LV → List (Nat × LV) → Option Tch) : Prop :=
  ∀ (args : List LV) (t : Tch) (g : Nat → Option Blk) (nb : Nat) (p : Nat → Bool) (rdB wrB : List Blk) (ans : Ans) (ws : List (Nat × Option Blk)) (E : Env) (w : World),
    s args (peekL g (ptrBs args)) = some t → liveAll g t.rd = some rdB → liveAll g t.wr = some wrB → nodupB t.wr = true → t.go rdB wrB nb = some ans → zipW t.wr ans.wr = some ws → (∀ c ∈ ans.cs, c.1 = c.2) →
    Rel E g w → (∀ i c, g i = some c → p i = true ∧ okL p c.cells = true) → (∀ v ∈ args, v.ok p = true) → (∀ i, nb ≤ i → i < nb + ans.nw.length → p i = false) →
    CallOK P f (args.map (LV.den E)).toArray w fun v w' => ∃ E', v = ans.val.den E' ∧ Post w E g nb ⟨ans.val, ws, ans.nw, [], []⟩ E' w'
def GenOK (P : Program) (f : FuncId) (s : List LV → List Nat → List Blk → Nat → Option Dl) : Prop :=
  ∀ (args : List LV) (seen : List Nat) (ks : List Blk) (g : Nat → Option Blk) (nb : Nat) (p : Nat → Bool) (d : Dl) (E : Env) (w : World),
    liveAll g seen = some ks → s args seen ks nb = some d → (wkeys d.wr).Nodup → (∀ c ∈ d.cs, c.1 = c.2) →
    Rel E g w → (∀ i c, g i = some c → p i = true ∧ okL p c.cells = true) → (∀ v ∈ args, v.ok p = true) → (∀ i, nb ≤ i → i < nb + d.nw.length → p i = false) →
    CallOK P f (args.map (LV.den E)).toArray w fun v w' => ∃ E', v = d.val.den E' ∧ Post w E g nb ⟨d.val, d.wr, d.nw, [], []⟩ E' w'
def KOK (P : Program) (f : FuncId) : SumK → Prop
  | .old s => SumOK P f s
  | .peek s => PeekOK P f s
  | .gen s => GenOK P f s
def AllOK (P : Program) (S : FuncId → Option SumK) : Prop := ∀ f s, S f = some s → KOK P f s
theorem callee_spec (hτ : ∀ t, a.eval (.tmp t) = (τ t).den E) {c : Call} {f : FuncId} {args : List LV} (h : callee τ c = some (f, args)) (ty : TypeId) :
    (do let d ← resolve a.eval c ty; invoke d.target d.args : Sem Next) = callFunc f (args.map (LV.den E)).toArray := by
  unfold callee at h
  split at h
  · rename_i x hx
    split at h
    · rename_i f' caps args' hf hargs
      cases h
      have h1 := ev_spec hτ hf
      have h2 := evs_spec hτ hargs
      have h3 : c.args.map a.eval = (args'.map (LV.den E)).toArray := by
        rw [← h2]
        rcases c with ⟨_, ⟨l⟩, _⟩
        simp
      unfold resolve
      rw [hx]
      simp only [h1, h3, LV.den, V1.den, At.den, Deferred.ofValue, pure_bind, invoke]
      congr 1
      simp [LV.den, V1.den, At.den]
    · cases h
  · cases h
theorem callee_ok (hp : ∀ t, (τ t).ok p = true) {c : Call} {f : FuncId} {args : List LV} (h : callee τ c = some (f, args)) : ∀ v ∈ args, v.ok p = true := by
  unfold callee at h
  split at h
  · split at h
    · rename_i f' caps args' hf hargs
      cases h
      intro v hv
      rcases List.mem_append.1 hv with hv | hv
      · exact evs_ok hp hargs v hv
      · obtain ⟨q, hq, rfl⟩ := List.mem_map.1 hv
        have := ev_ok hp hf
        simp only [LV.ok, V1.ok, At.ok, List.all_eq_true] at this
        exact this q hq
    · cases h
  · cases h
theorem CallOK.wp {o : Oper} {c : Call} {f : FuncId} {args : List LV} {R : Value → World → Prop} {K : Act → World → Prop} {Q : Exit → Act → World → Prop} (ho : o.op = .call c)
    (hτ : ∀ t, a.eval (.tmp t) = (τ t).den E) (hc : callee τ c = some (f, args)) (h : CallOK P f (args.map (LV.den E)).toArray w R)
    (hk : ∀ v w', R v w' → K (a.put o.dst v) w') : o.wp P a w K Q := by
  unfold Oper.wp execOp
  simp only [ho]
  rw [callee_spec hτ hc]
  rcases h with ⟨fn, h1, h2, h3, h4⟩ | ⟨v, w', h1, h2⟩
  · have hrun : (callFunc f (args.map (LV.den E)).toArray).run P w = .ok (.enter f (args.map (LV.den E)).toArray) w := by
      unfold callFunc
      obtain ⟨bd, hbd⟩ := Option.isSome_iff_exists.1 h3
      simp [program, h1, h2, hbd, Sem.run]
    rw [hrun]
    simp only [Oper.upon]
    refine h4.mono fun e w' he => ?_
    obtain ⟨v, rfl, hv⟩ := he
    exact hk v w' hv
  · rw [h1]
    exact hk v w' h2
theorem memB_iff : ∀ {l : List Nat} {i : Nat}, memB l i = true ↔ i ∈ l
  | [], i => by simp [memB]
  | a :: l, i => by
    simp only [memB, nbeq]
    by_cases h : a = i
    · simp [h]
    · simp [h, memB_iff (l := l), Ne.symm h]
theorem nodupB_iff : ∀ {l : List Nat}, nodupB l = true ↔ l.Nodup
  | [] => by simp [nodupB]
  | a :: l => by
    simp only [nodupB, List.nodup_cons]
    cases h : memB l a
    · have : a ∉ l := fun hm => by rw [memB_iff.2 hm] at h; cases h
      simp [this, nodupB_iff (l := l)]
    · simp [memB_iff.1 h]
theorem liveAll_some : ∀ {l : List Nat} {r : List Blk}, liveAll g l = some r → ∀ i ∈ l, (g i).isSome
  | [], r, _ => by simp
  | b :: l, r, h => by
    simp only [liveAll] at h
    split at h
    · rename_i k r' hk hr
      simp only [List.mem_cons, forall_eq_or_imp]
      exact ⟨by simp [hk], liveAll_some hr⟩
    · cases h
theorem zipW_keys : ∀ {l : List Nat} {bs : List Blk} {ws : List (Nat × Option Blk)}, zipW l bs = some ws → ws.map (·.1) = l ∧ ∀ x ∈ ws, ∃ b ∈ bs, x.2 = some b
  | [], [], ws, h => by simp only [zipW] at h; cases h; simp
  | [], b :: bs, ws, h => by simp [zipW] at h
  | i :: l, [], ws, h => by simp [zipW] at h
  | i :: l, b :: bs, ws, h => by
    simp only [zipW] at h
    split at h
    · rename_i r hr
      cases h
      obtain ⟨h1, h2⟩ := zipW_keys hr
      refine ⟨by simp [h1], fun x hx => ?_⟩
      rcases List.mem_cons.1 hx with rfl | hx
      · exact ⟨b, by simp, rfl⟩
      · obtain ⟨b', hb', he⟩ := h2 x hx
        exact ⟨b', by simp [hb'], he⟩
    · cases h
theorem catN_mem : ∀ {l m : List Nat} {i : Nat}, i ∈ catN l m ↔ i ∈ l ∨ i ∈ m
  | [], m, i => by simp [catN]
  | a :: l, m, i => by simp only [catN, List.mem_cons, catN_mem (l := l)]; exact ⟨fun h => h.elim (fun h => .inl (.inl h)) (fun h => h.elim (fun h => .inl (.inr h)) .inr), fun h => h.elim (fun h => h.elim .inl fun h => .inr (.inl h)) fun h => .inr (.inr h)⟩
theorem fstL_mem : ∀ {l : List (Nat × Nat)} {i : Nat}, i ∈ fstL l → ∃ c ∈ l, c.1 = i
  | [], i, h => by cases h
  | c :: l, i, h => by
    simp only [fstL, List.mem_cons] at h
    rcases h with rfl | h
    · exact ⟨c, List.mem_cons_self .., rfl⟩
    · obtain ⟨d, hd, e⟩ := fstL_mem h
      exact ⟨d, List.mem_cons_of_mem _ hd, e⟩
theorem refsA_ok {q : Nat → Bool} {a : At} (h : a.ok q = true) {i : Nat} (hi : i ∈ refsA a) : q i = true := by
  cases a with
  | fn f caps =>
    simp only [At.ok, List.all_eq_true] at h
    obtain ⟨c, hc, rfl⟩ := fstL_mem hi
    exact h c hc
  | ptr b o => simp only [refsA, List.mem_singleton] at hi; subst hi; exact h
  | sl b o n c => simp only [refsA, List.mem_singleton] at hi; subst hi; exact h
  | slu b n => simp only [refsA, List.mem_singleton] at hi; subst hi; exact h
  | slx b o n c => simp only [refsA, List.mem_singleton] at hi; subst hi; exact h
  | ptx b o => simp only [refsA, List.mem_singleton] at hi; subst hi; exact h
  | slt b o n => simp only [refsA, List.mem_singleton] at hi; subst hi; exact h
  | _ => cases hi
theorem refsL_ok {q : Nat → Bool} : ∀ {l : List At}, okL q l = true → ∀ {i : Nat}, i ∈ refsL l → q i = true
  | [], _, i, hi => by cases hi
  | a :: l, h, i, hi => by
    simp only [okL] at h
    split at h
    · rename_i ha
      simp only [refsL, catN_mem] at hi
      rcases hi with hi | hi
      · exact refsA_ok ha hi
      · exact refsL_ok h hi
    · cases h
theorem refsBs_mem : ∀ {l : List Blk} {i : Nat}, i ∈ refsBs l → ∃ b ∈ l, i ∈ refsL b.cells
  | [], i, h => by cases h
  | b :: l, i, h => by
    simp only [refsBs, catN_mem] at h
    rcases h with h | h
    · exact ⟨b, List.mem_cons_self .., h⟩
    · obtain ⟨c, hc, e⟩ := refsBs_mem h
      exact ⟨c, List.mem_cons_of_mem _ hc, e⟩
theorem liveAll_from : ∀ {l : List Nat} {r : List Blk}, liveAll g l = some r → ∀ b ∈ r, ∃ i, g i = some b
  | [], r, h, b, hb => by simp only [liveAll] at h; cases h; cases hb
  | a :: l, r, h, b, hb => by
    simp only [liveAll] at h
    split at h
    · rename_i k r' hk hr
      cases h
      rcases List.mem_cons.1 hb with rfl | hb
      · exact ⟨a, hk⟩
      · exact liveAll_from hr b hb
    · cases h
theorem sumD_ok {t : Tch} {d : Dl} (hg : ∀ i c, g i = some c → p i = true ∧ okL p c.cells = true) (h : sumD t g nb = some d) : OkD p g nb d := by
  unfold sumD at h
  split at h
  · rename_i r ws' hr hw hnd
    split at h
    · rename_i ans hans
      split at h
      · rename_i ws hws
        split at h
        · rename_i k1 k2 k3
          cases h
          have hname : ∀ i, mayName t nb (lenB ans.nw) i = true → pn p nb ans.nw.length i = true := by
            intro i hi
            unfold mayName at hi
            cases h1 : memB t.rd i with
            | true =>
              obtain ⟨c, hc⟩ := Option.isSome_iff_exists.1 (liveAll_some hr i (memB_iff.1 h1))
              exact pn_of (hg i c hc).1
            | false =>
              cases h2 : memB t.wr i with
              | true =>
                obtain ⟨c, hc⟩ := Option.isSome_iff_exists.1 (liveAll_some hw i (memB_iff.1 h2))
                exact pn_of (hg i c hc).1
              | false =>
                simp only [h1, h2, nble, nblt, lenB_eq] at hi
                by_cases h3 : nb ≤ i
                · simp only [h3, decide_true] at hi
                  simp only [pn, h3, decide_true, Bool.true_and, hi, Bool.or_true]
                · simp [h3] at hi
          obtain ⟨z1, z2⟩ := zipW_keys hws
          refine ⟨LV.ok_mono hname k1, fun x hx b hb => ?_, okBs_mono hname k3, fun x hx => ?_, ?_⟩
          · obtain ⟨b', hb', he⟩ := z2 x hx
            rw [he] at hb
            rw [← Option.some.inj hb]
            refine okL_mono (fun i hi => ?_) (okBs_iff.1 k2 b' hb')
            unfold mayN at hi
            split at hi
            · rename_i hm; exact hname i hm
            · obtain ⟨kb, hkb, hir⟩ := refsBs_mem (memB_iff.1 hi)
              obtain ⟨j, hj⟩ := liveAll_from hw kb hkb
              exact pn_of (refsL_ok (hg j kb hj).2 hir)
          · exact liveAll_some hw x.1 (by rw [← z1]; exact List.mem_map_of_mem hx)
          · show (ws.map (·.1)).Nodup
            rw [z1]
            exact nodupB_iff.1 hnd
        · cases h
      · cases h
    · cases h
  · cases h
theorem sumD_split {t : Tch} {d : Dl} (h : sumD t g nb = some d) : ∃ rB wB ans ws, liveAll g t.rd = some rB ∧ liveAll g t.wr = some wB ∧ nodupB t.wr = true ∧ t.go rB wB nb = some ans ∧ zipW t.wr ans.wr = some ws ∧ d = ⟨ans.val, ws, ans.nw, t.rd ++ t.wr, ans.cs⟩ := by
  unfold sumD at h
  split at h
  · rename_i rB wB hrB hwB hnd
    split at h
    · rename_i ans hans
      split at h
      · rename_i ws hws
        split at h
        · cases h
          exact ⟨rB, wB, ans, ws, hrB, hwB, hnd, hans, hws, rfl⟩
        · cases h
      · cases h
    · cases h
  · cases h
theorem wkeys_eq : ∀ l : List (Nat × Option Blk), wkeys l = l.map (·.1)
  | [] => rfl
  | x :: l => by simp [wkeys, wkeys_eq l]
theorem okWs_iff {q : Nat → Bool} : ∀ {l : List (Nat × Option Blk)}, okWs q l = true → ∀ x ∈ l, ∀ b, x.2 = some b → okL q b.cells = true
  | [], _, x, hx => by cases hx
  | (i, none) :: l, h, x, hx => by
    rcases List.mem_cons.1 hx with rfl | hx
    · intro b hb; cases hb
    · exact okWs_iff (l := l) h x hx
  | (i, some b) :: l, h, x, hx => by
    simp only [okWs] at h
    split at h
    · rename_i hb
      rcases List.mem_cons.1 hx with rfl | hx
      · intro c hc; cases hc; exact hb
      · exact okWs_iff h x hx
    · cases h
theorem allIn_sub : ∀ {l m : List Nat}, allIn l m = true → ∀ i ∈ l, i ∈ m
  | [], _, _, i, hi => by cases hi
  | a :: l, m, h, i, hi => by
    simp only [allIn] at h
    split at h
    · rename_i ha
      rcases List.mem_cons.1 hi with rfl | hi
      · exact memB_iff.1 ha
      · exact allIn_sub h i hi
    · cases h
theorem genK_split {args : List LV} {s : List LV → List Nat → List Blk → Nat → Option Dl} {seen : List Nat} {ks : List Blk} {d : Dl} (h : genK args s seen ks nb = some d) :
    ∃ d0, s args seen ks nb = some d0 ∧ (wkeys d0.wr).Nodup ∧ (∀ i ∈ wkeys d0.wr, i ∈ seen) ∧ d0.val.ok (mayName ⟨seen, [], fun _ _ _ => none⟩ nb (lenB d0.nw)) = true ∧ okBs (mayName ⟨seen, [], fun _ _ _ => none⟩ nb (lenB d0.nw)) d0.nw = true ∧
      okWs (mayName ⟨seen, [], fun _ _ _ => none⟩ nb (lenB d0.nw)) d0.wr = true ∧ d = ⟨d0.val, d0.wr, d0.nw, seen, d0.cs⟩ := by
  unfold genK at h
  split at h
  · rename_i d0 hd0
    split at h
    · rename_i h1 h2 h3
      split at h
      · rename_i h4 h5
        cases h
        exact ⟨d0, hd0, nodupB_iff.1 h1, allIn_sub h2, h3, h4, h5, rfl⟩
      · cases h
    · cases h
  · cases h
theorem genK_ok {args : List LV} {s : List LV → List Nat → List Blk → Nat → Option Dl} {seen : List Nat} {ks : List Blk} {d : Dl} (hg : ∀ i c, g i = some c → p i = true ∧ okL p c.cells = true) (hl : liveAll g seen = some ks) (h : genK args s seen ks nb = some d) : OkD p g nb d := by
  obtain ⟨d0, -, h1, h2, h3, h4, h5, rfl⟩ := genK_split h
  have hname : ∀ i, mayName ⟨seen, [], fun _ _ _ => none⟩ nb (lenB d0.nw) i = true → pn p nb d0.nw.length i = true := by
    intro i hi
    unfold mayName at hi
    cases h1 : memB seen i with
    | true =>
      obtain ⟨c, hc⟩ := Option.isSome_iff_exists.1 (liveAll_some hl i (memB_iff.1 h1))
      exact pn_of (hg i c hc).1
    | false =>
      simp only [h1, memB, nble, nblt, lenB_eq] at hi
      by_cases h3 : nb ≤ i
      · simp only [h3, decide_true] at hi
        simp only [pn, h3, decide_true, Bool.true_and, hi, Bool.or_true]
      · simp [h3] at hi
  refine ⟨LV.ok_mono hname h3, fun x hx b hb => okL_mono hname (okWs_iff h5 x hx b hb), okBs_mono hname h4, fun x hx => ?_, ?_⟩
  · exact liveAll_some hl x.1 (h2 x.1 (by rw [wkeys_eq]; exact List.mem_map_of_mem hx))
  · rw [← wkeys_eq]; exact h1
theorem sumK_step {S : FuncId → Option SumK} (hS : AllOK P S) (hτ : ∀ t, a.eval (.tmp t) = (τ t).den E) (hp : ∀ t, (τ t).ok p = true) {o : Oper} {c : Call} {f : FuncId} {args : List LV} {s : SumK} {d : Dl} (ho : o.op = .call c)
    (hc : callee τ c = some (f, args)) (hs : S f = some s) (h : sumK s args g nb = some d) (hr : Rel E g w) (hg : ∀ i c, g i = some c → p i = true ∧ okL p c.cells = true)
    (hn : ∀ i, nb ≤ i → i < nb + d.nw.length → p i = false) : StepOK P o a w E g nb d := by
  have hK := hS f s hs
  cases s with
  | old s =>
    simp only [sumK] at h
    split at h
    · rename_i t ht
      obtain ⟨rB, wB, ans, ws, hrB, hwB, hnd, hans, hws, rfl⟩ := sumD_split h
      intro hcs K Q hk
      refine CallOK.wp ho hτ hc (hK args t g nb p rB wB ans ws E w ht hrB hwB hnd hans hws hcs hr hg (callee_ok hp hc) hn) ?_
      rintro v w' ⟨E', rfl, hpost⟩
      exact hk E' w' ⟨hpost.agree, hpost.rel, hpost.os, hpost.tape, hpost.output, hpost.size, hpost.frame, hpost.fresh⟩
    · cases h
  | peek s =>
    simp only [sumK] at h
    split at h
    · rename_i t ht
      split at h
      · obtain ⟨rB, wB, ans, ws, hrB, hwB, hnd, hans, hws, rfl⟩ := sumD_split h
        intro hcs K Q hk
        refine CallOK.wp ho hτ hc (hK args t g nb p rB wB ans ws E w ht hrB hwB hnd hans hws hcs hr hg (callee_ok hp hc) hn) ?_
        rintro v w' ⟨E', rfl, hpost⟩
        exact hk E' w' ⟨hpost.agree, hpost.rel, hpost.os, hpost.tape, hpost.output, hpost.size, hpost.frame, hpost.fresh⟩
      · cases h
    · cases h
  | gen s =>
    simp only [sumK] at h
    split at h
    · rename_i seen hseen
      split at h
      · rename_i ks hks
        obtain ⟨d0, hd0, k1, -, -, -, -, rfl⟩ := genK_split h
        intro hcs K Q hk
        refine CallOK.wp ho hτ hc (hK args seen ks g nb p d0 E w hks hd0 k1 hcs hr hg (callee_ok hp hc) hn) ?_
        rintro v w' ⟨E', rfl, hpost⟩
        exact hk E' w' ⟨hpost.agree, hpost.rel, hpost.os, hpost.tape, hpost.output, hpost.size, hpost.frame, hpost.fresh⟩
      · cases h
    · cases h
theorem StepOK.of_pick {o : Oper} {c x y : Operand} {pd : Option Bool} {d : Dl} (hτ : ∀ t, a.eval (.tmp t) = (τ t).den E) (ho : o.op = .pick c x y) (h : pickD τ pd c x y = some d) (hr : Rel E g w) : StepOK P o a w E g nb d := by
  obtain ⟨h1, h2, h3⟩ := pickD_spec (P := P) (w := w) hτ h
  intro hc K Q hk
  have := h3 hc
  unfold Oper.wp execOp
  simp only [ho]
  rw [this]
  exact hk E w (.refl h1 h2 hr)
theorem nilCheckD_step {o : Oper} {x : Operand} {v : LV} {d : Dl} (ho : o.op = .nilCheck x) (hx : a.eval x = v.den E) (h : nilCheckD v = some d) (hr : Rel E g w) : StepOK P o a w E g nb d := by
  unfold nilCheckD at h
  split at h
  · refine .of_pur (s := pure (a.eval x)) hr (pur_val1 h (by rw [hx]; rfl)) ?_
    simp [execOp, ho, hx, LV.den, V1.den, At.den]
  · refine .of_pur (s := pure (a.eval x)) hr (pur_val1 h (by rw [hx]; rfl)) ?_
    simp [execOp, ho, hx, LV.den, V1.den, At.den]
  · refine .of_pur (s := pure (a.eval x)) hr (pur_val1 h (by rw [hx]; rfl)) ?_
    simp [execOp, ho, hx, LV.den, V1.den, At.den]
  · cases h
theorem nilCheckD_ok {v : LV} {d : Dl} (h : nilCheckD v = some d) (hv : v.ok p = true) : OkD p g nb d := by
  unfold nilCheckD at h
  split at h
  · exact .val1 h hv
  · exact .val1 h hv
  · exact .val1 h hv
  · cases h
theorem opD_step {S : FuncId → Option SumK} (hS : AllOK P S) (hτ : ∀ t, a.eval (.tmp t) = (τ t).den E) (hp : ∀ t, (τ t).ok p = true) {z : Bool} {pd : Option Bool} {o : Oper} {d : Dl}
    (hbin : ∀ (op : BinOp) (t : TypeId) (x y : LV) (xo yo : Operand) (kn : Bool) (d : Dl), a.eval xo = x.den E → a.eval yo = y.den E → binD P op t x y kn = some d →
      Pur P E w (do eqGuard op t xo yo (x.den E) (y.den E); binOp op t (x.den E) (y.den E)) d)
    (h : opD P S z τ g nb pd o.op = some d) (hr : Rel E g w) (hg : ∀ i c, g i = some c → p i = true ∧ okL p c.cells = true) (hn : ∀ i, nb ≤ i → i < nb + d.nw.length → p i = false) :
    StepOK P o a w E g nb d := by
  cases ho : o.op <;> rw [ho] at h <;> simp only [opD, on1, on2, onL, onP, moveD, reduceCtorEq] at h
  case move x =>
    split at h
    · rename_i v hv
      cases h
      refine .of_pur (s := pure (a.eval x)) hr (.of_run (by simp [ev_spec hτ hv])) (by simp [execOp, ho])
    · cases h
  case assign x =>
    split at h
    · rename_i v hv
      cases h
      refine .of_pur (s := pure (a.eval x)) hr (.of_run (by simp [ev_spec hτ hv])) (by simp [execOp, ho])
    · cases h
  case pick c x y => exact .of_pick hτ ho h hr
  case alloc t => exact allocD_step ho h hr hg hn
  case box t x =>
    split at h
    · rename_i v hv
      exact boxD_step ho (ev_spec hτ hv) (ev_ok hp hv) h hr hg hn
    · cases h
  case build t parts =>
    split at h
    · rename_i l hl
      refine .of_pur hr (buildD_spec h) ?_
      have h2 : (parts.map fun (i, x) => (i, a.eval x)) = (l.map fun q => (q.1, q.2.den E)).toArray := by
        rw [← evParts_spec hτ hl]
        rcases parts with ⟨l⟩
        simp
      simp only [execOp, ho, h2]
    · cases h
  case buildSlice t n parts =>
    split at h
    · rename_i l hl
      exact buildSliceD_step ho (evParts_spec hτ hl) (evParts_ok hp hl) h hr hg hn
    · cases h
  case load t x =>
    split at h
    · rename_i v hv
      exact .of_pur hr (loadXD_spec hr h) (by simp [execOp, ho, ev_spec hτ hv])
    · cases h
  case store t x y =>
    split at h
    · rename_i v hv
      split at h
      · rename_i u hu
        exact storeD_step ho (ev_spec hτ hv) (ev_spec hτ hu) h hr
      · cases h
    · cases h
  case nilCheck x =>
    split at h
    · rename_i v hv
      exact nilCheckD_step ho (ev_spec hτ hv) h hr
    · cases h
  case binOp op t x y ty =>
    split at h
    · rename_i v hv
      split at h
      · rename_i u hu
        have h1 := ev_spec hτ hv
        have h2 := ev_spec hτ hu
        refine .of_pur hr (hbin op t v u x y _ d h1 h2 h) ?_
        simp only [execOp, ho, h1, h2]
      · cases h
    · cases h
  case unOp op t x =>
    split at h
    · rename_i v hv
      exact .of_pur hr (unD_spec h) (by simp [execOp, ho, ev_spec hτ hv])
    · cases h
  case convert t u x =>
    split at h
    · rename_i v hv
      exact .of_pur hr (convD_spec h) (by simp [execOp, ho, ev_spec hτ hv])
    · cases h
  case makeFunc f first caps =>
    split at h
    · rename_i l hl
      refine .of_pur hr (makeFuncD_spec (a := a) h) ?_
      have h2 : caps.map a.eval = (l.map (LV.den E)).toArray := by
        rw [← evs_spec hτ hl]
        rcases caps with ⟨l⟩
        simp
      simp only [execOp, ho, h2]
      rcases first with ⟨l⟩
      simp
    · cases h
  case slice t x lo hi mx =>
    unfold slD at h
    split at h
    · rename_i l hl
      split at h
      · rename_i u hu
        split at h
        · rename_i m hm
          simp only [on1] at h
          split at h
          · rename_i v hv
            have oe : ∀ {y : Option Operand} {q : Option LV}, oevs τ y = some q → y.map a.eval = q.map (LV.den E) := by
              intro y q hq
              cases y with
              | none => simp only [oevs] at hq; cases hq; rfl
              | some z =>
                simp only [oevs] at hq
                split at hq
                · rename_i q' hq'; cases hq; simp [ev_spec hτ hq']
                · cases hq
            have e1 := oe hl
            have e2 := oe hu
            have e3 := oe hm
            have hex : execOp a.eval o = (do pure (.value (← Instr.sliceAt t (v.den E) (l.map (LV.den E)) (u.map (LV.den E)) (m.map (LV.den E))))) := by
              simp [execOp, ho, ev_spec hτ hv, e1, e2, e3]
            unfold sliceM at h
            split at h
            · split at h
              · exact .of_pur hr (slice3_spec hr h) hex
              · cases h
            · split at h
              · rename_i b n hb
                have := sluOf_spec hb
                subst this
                exact sliceU_step hex rfl h hr hg hn
              · exact .of_pur hr (sliceD_spec h) hex
          · cases h
        · cases h
      · cases h
    · cases h
  case sliceToArrayPointer t x =>
    split at h
    · rename_i v hv
      exact .of_pur hr (arrPtrD_spec h) (by simp [execOp, ho, ev_spec hτ hv])
    · cases h
  case fieldAddr t x i =>
    split at h
    · rename_i v hv
      exact .of_pur hr (fieldAddrD_spec h) (by simp [execOp, ho, ev_spec hτ hv])
    · cases h
  case field t x i =>
    split at h
    · rename_i v hv
      exact .of_pur hr (fieldD_spec h) (by simp [execOp, ho, ev_spec hτ hv])
    · cases h
  case indexAddr t x i =>
    split at h
    · rename_i v hv
      split at h
      · rename_i u hu
        exact .of_pur hr (indexAddrD_spec h) (by simp [execOp, ho, ev_spec hτ hv, ev_spec hτ hu])
      · cases h
    · cases h
  case index t x i =>
    split at h
    · rename_i v hv
      split at h
      · rename_i u hu
        exact .of_pur hr (indexD_spec h) (by simp [execOp, ho, ev_spec hτ hv, ev_spec hτ hu])
      · cases h
    · cases h
  case extract x i =>
    split at h
    · rename_i v hv
      exact .of_pur hr (extractD_spec h) (by simp [execOp, ho, ev_spec hτ hv])
    · cases h
  case call c =>
    unfold callD at h
    split at h
    · rename_i hb
      simp only [onL] at h
      split at h
      · rename_i l hl
        have h2 : c.args.map a.eval = (l.map (LV.den E)).toArray := by
          rw [← evs_spec hτ hl]
          rcases c with ⟨_, ⟨l⟩, _⟩
          simp
        exact appendD_step ho hb h2 h hr hg hn
      · cases h
    · rename_i b _ hb
      simp only [onL] at h
      split at h
      · rename_i l hl
        have h2 : c.args.map a.eval = (l.map (LV.den E)).toArray := by
          rw [← evs_spec hτ hl]
          rcases c with ⟨_, ⟨l⟩, _⟩
          simp
        unfold builtinM at h
        split at h
        · exact copyD_step ho hb h2 h hr
        · exact clearD_step ho hb h2 h hr
        unfold builtinD at h
        split at h
        · rename_i t x he1 _ _ _
          have h3 : c.argTypes = #[t] := by
            rcases c with ⟨_, _, ⟨l⟩⟩
            simpa using he1
          refine .of_pur hr (lenD_spec (ty := o.type) h) ?_
          simp [execOp, ho, resolve, hb, h2, h3, invoke, builtin]
        · refine .of_pur hr (minD_spec (ts := c.argTypes) (ty := o.type) h) ?_
          simp [execOp, ho, resolve, hb, h2, invoke, builtin]
        · refine .of_pur hr (maxD_spec (ts := c.argTypes) (ty := o.type) h) ?_
          simp [execOp, ho, resolve, hb, h2, invoke, builtin]
        · cases h
      · cases h
    · split at h
      · rename_i f args hc
        split at h
        · rename_i s hs
          exact sumK_step hS hτ hp ho hc hs h hr hg hn
        · cases h
      · cases h
theorem opD_ok {S : FuncId → Option SumK} (hp : ∀ t, (τ t).ok p = true) {z : Bool} {pd : Option Bool} {op : Op} {d : Dl} (h : opD P S z τ g nb pd op = some d)
    (hg : ∀ i c, g i = some c → p i = true ∧ okL p c.cells = true) : OkD p g nb d := by
  cases op <;> simp only [opD, on1, on2, onL, onP, moveD, reduceCtorEq] at h
  case move x =>
    split at h
    · rename_i v hv; cases h; exact .plain rfl rfl (ev_ok hp hv)
    · cases h
  case assign x =>
    split at h
    · rename_i v hv; cases h; exact .plain rfl rfl (ev_ok hp hv)
    · cases h
  case pick c x y => exact pickD_ok hp h
  case alloc t => exact allocD_ok h
  case box t x =>
    split at h
    · rename_i v hv; exact boxD_ok h (ev_ok hp hv)
    · cases h
  case build t parts =>
    split at h
    · rename_i l hl; exact buildD_ok h (evParts_ok hp hl)
    · cases h
  case buildSlice t n parts =>
    split at h
    · rename_i l hl; exact buildSliceD_ok h (evParts_ok hp hl)
    · cases h
  case load t x =>
    split at h
    · exact loadXD_ok hg h
    · cases h
  case store t x y =>
    split at h
    · split at h
      · rename_i u hu; exact storeD_ok hg (ev_ok hp hu) h
      · cases h
    · cases h
  case nilCheck x =>
    split at h
    · rename_i v hv
      exact nilCheckD_ok h (ev_ok hp hv)
    · cases h
  case binOp op t x y ty =>
    split at h
    · split at h
      · unfold binD at h
        split at h
        · split at h
          · exact binII_ok h
          · cases h
        · split at h
          · split at h
            · unfold binEq at h
              split at h
              · split at h
                · exact .val1 h rfl
                · cases h
              · split at h
                · exact .val1 h rfl
                · cases h
              · cases h
            · cases h
          · cases h
      · cases h
    · cases h
  case unOp op t x =>
    split at h
    · exact unD_ok h
    · cases h
  case convert t u x =>
    split at h
    · exact convD_ok h
    · cases h
  case makeFunc f first caps =>
    split at h
    · rename_i l hl; exact makeFuncD_ok h (evs_ok hp hl)
    · cases h
  case slice t x lo hi mx =>
    unfold slD at h
    split at h
    · split at h
      · split at h
        · simp only [on1] at h
          split at h
          · rename_i v hv; exact sliceM_ok hg h (ev_ok hp hv)
          · cases h
        · cases h
      · cases h
    · cases h
  case sliceToArrayPointer t x =>
    split at h
    · rename_i v hv; exact arrPtrD_ok h (ev_ok hp hv)
    · cases h
  case fieldAddr t x i =>
    split at h
    · rename_i v hv; exact fieldAddrD_ok h (ev_ok hp hv)
    · cases h
  case field t x i =>
    split at h
    · rename_i v hv; exact fieldD_ok h (ev_ok hp hv)
    · cases h
  case indexAddr t x i =>
    split at h
    · rename_i v hv
      split at h
      · exact indexAddrD_ok h (ev_ok hp hv)
      · cases h
    · cases h
  case index t x i =>
    split at h
    · rename_i v hv
      split at h
      · exact indexD_ok h (ev_ok hp hv)
      · cases h
    · cases h
  case extract x i =>
    split at h
    · rename_i v hv; exact extractD_ok h (ev_ok hp hv)
    · cases h
  case call c =>
    unfold callD at h
    split at h
    · simp only [onL] at h
      split at h
      · exact appendD_ok hg h
      · cases h
    · simp only [onL] at h
      split at h
      · unfold builtinM at h
        split at h
        · exact copyD_ok hg h
        · exact clearD_ok hg h
        unfold builtinD at h
        split at h
        · exact lenD_ok h
        · exact minMaxD_ok h
        · exact minMaxD_ok h
        · cases h
      · cases h
    · split at h
      · split at h
        · rename_i s _
          cases s with
          | old s =>
            simp only [sumK] at h
            split at h
            · exact sumD_ok hg h
            · cases h
          | peek s =>
            simp only [sumK] at h
            split at h
            · split at h
              · exact sumD_ok hg h
              · cases h
            · cases h
          | gen s =>
            simp only [sumK] at h
            split at h
            · split at h
              · rename_i ks hks
                exact genK_ok hg hks h
              · cases h
            · cases h
        · cases h
      · cases h
end
end Go.Lr

/- The local evaluator's steps: states, their relation to the model's, and how it goes from one to the next. -/
namespace Go.Lr
open Go.RowKit
def below (n : Nat) : Nat → Bool := fun i => decide (i < n)
structure MRel (E : Env) (s : St) (w : World) : Prop where
  rel : Rel E (getM s.mem) w
  okM : ∀ i b, getM s.mem i = some b → i < s.nb ∧ okL (below s.nb) b.cells = true
  uq : uniq s.mem
structure R (E : Env) (s : St) (a : Act) (w : World) : Prop where
  size : a.tmps.size = s.sz
  le : s.sz ≤ 60000
  tm : ∀ t : Nat, a.tmps.getD t undef = (getT s.tm t).den E
  defers : a.defers = []
  okT : ∀ t, (getT s.tm t).ok (below s.nb) = true
  m : MRel E s w
structure Ext (w : World) (E : Env) (s : St) (w' : World) (E' : Env) (s' : St) : Prop where
  nb : s.nb ≤ s'.nb
  agree : ∀ i, i < s.nb → E' i = E i
  os : w'.os = w.os
  tape : w'.tape = w.tape
  output : w'.output = w.output
  size : w.heap.size ≤ w'.heap.size
  frame : ∀ b, b < w.heap.size → (∀ i, (getM s.mem i).isSome → (E i).1 ≠ b) → w'.heap[b]? = w.heap[b]?
  src : ∀ i, (getM s'.mem i).isSome → w.heap.size ≤ (E' i).1 ∨ ∃ j, (getM s.mem j).isSome ∧ (E' i).1 = (E j).1
theorem Ext.refl (w : World) (E : Env) (s : St) : Ext w E s w E s :=
  ⟨Nat.le_refl _, fun _ _ => rfl, rfl, rfl, rfl, Nat.le_refl _, fun _ _ _ => rfl, fun i hi => .inr ⟨i, hi, rfl⟩⟩
theorem Ext.trans {w w1 w2 : World} {E E1 E2 : Env} {s s1 s2 : St} (h : Ext w E s w1 E1 s1) (k : Ext w1 E1 s1 w2 E2 s2) : Ext w E s w2 E2 s2 := by
  refine ⟨Nat.le_trans h.nb k.nb, fun i hi => (k.agree i (Nat.lt_of_lt_of_le hi h.nb)).trans (h.agree i hi), k.os.trans h.os, k.tape.trans h.tape, k.output.trans h.output, Nat.le_trans h.size k.size, fun b hb hn => ?_, fun i hi => ?_⟩
  · rw [← h.frame b hb hn]
    refine k.frame b (Nat.lt_of_lt_of_le hb h.size) fun i hi he => ?_
    rcases h.src i hi with h1 | ⟨j, hj, h1⟩
    · omega
    · exact hn j hj (h1.symm.trans he)
  · rcases k.src i hi with h1 | ⟨j, hj, h1⟩
    · exact .inl (Nat.le_trans h.size h1)
    · rcases h.src j hj with h2 | ⟨q, hq, h2⟩
      · exact .inl (by omega)
      · exact .inr ⟨q, hq, h1.trans h2⟩
def Good (s : St) : Prop := ∀ c ∈ s.cs, c.1 = c.2
-- the evaluator's ways of speaking
theorem putAllK_eq {β : Type} : ∀ (m : Mem) (l : List (Nat × Option Blk)) (k : Mem → β), putAllK m l k = k (putAll m l)
  | _, [], _ => rfl
  | m, (i, s) :: l, k => by simp only [putAllK, putAll, setMK_eq, putAllK_eq]
theorem newAllK_eq {β : Type} : ∀ (m : Mem) (nb : Nat) (l : List Blk) (k : Mem → Nat → β), newAllK m nb l k = k (newAll m nb l) (nb + l.length)
  | _, _, [], _ => rfl
  | m, nb, b :: l, k => by
    simp only [newAllK, newAll, forceN_eq, newAllK_eq, List.length_cons]
    congr 1
    omega
theorem logK_eq {β : Type} : ∀ (lg : List Nat) (l : List (Nat × Option Blk)) (k : List Nat → β), ∃ lg', logK lg l k = k lg' ∧ (∀ i ∈ lg, i ∈ lg') ∧ ∀ x ∈ l, x.1 ∈ lg'
  | lg, [], k => ⟨lg, rfl, fun _ h => h, by simp⟩
  | lg, x :: l, k => by
    simp only [logK]
    split
    · rename_i h
      obtain ⟨lg', h1, h2, h3⟩ := logK_eq lg l k
      refine ⟨lg', h1, h2, fun y hy => ?_⟩
      rcases List.mem_cons.1 hy with rfl | hy
      · exact h2 _ (memB_iff.1 h)
      · exact h3 y hy
    · obtain ⟨lg', h1, h2, h3⟩ := logK_eq (x.1 :: lg) l k
      refine ⟨lg', h1, fun i hi => h2 i (List.mem_cons_of_mem _ hi), fun y hy => ?_⟩
      rcases List.mem_cons.1 hy with rfl | hy
      · exact h2 _ (List.mem_cons_self ..)
      · exact h3 y hy
theorem csK_spec {β : Type} : ∀ {z : Bool} {l old : List (Bool × Bool)} {k : List (Bool × Bool) → Option β} {r : β}, csK z l old k = some r →
    ∃ new, k new = some r ∧ ((∀ c ∈ new, c.1 = c.2) → (∀ c ∈ l, c.1 = c.2) ∧ (∀ c ∈ old, c.1 = c.2))
  | z, [], old, k, r, h => ⟨old, by cases z <;> exact h, fun hc => ⟨by simp, hc⟩⟩
  | false, c :: l, old, k, r, h => by
    simp only [csK] at h
    obtain ⟨new, h1, h2⟩ := csK_spec h
    refine ⟨c :: new, h1, fun hc => ?_⟩
    have := h2 fun x hx => hc x (by simp [hx])
    refine ⟨fun x hx => ?_, this.2⟩
    rcases List.mem_cons.1 hx with rfl | hx
    · exact hc x (by simp)
    · exact this.1 x hx
  | true, (true, true) :: l, old, k, r, h => by
    simp only [csK] at h
    obtain ⟨new, h1, h2⟩ := csK_spec h
    refine ⟨new, h1, fun hc => ⟨fun x hx => ?_, (h2 hc).2⟩⟩
    rcases List.mem_cons.1 hx with rfl | hx
    · rfl
    · exact (h2 hc).1 x hx
  | true, (false, false) :: l, old, k, r, h => by
    simp only [csK] at h
    obtain ⟨new, h1, h2⟩ := csK_spec h
    refine ⟨new, h1, fun hc => ⟨fun x hx => ?_, (h2 hc).2⟩⟩
    rcases List.mem_cons.1 hx with rfl | hx
    · rfl
    · exact (h2 hc).1 x hx
  | true, (true, false) :: l, old, k, r, h => by simp [csK] at h
  | true, (false, true) :: l, old, k, r, h => by simp [csK] at h
-- memory
theorem uniq_putAll : ∀ (l : List (Nat × Option Blk)) (m : Mem), uniq m → uniq (putAll m l)
  | [], _, h => h
  | (i, s) :: l, m, h => uniq_putAll l _ (uniq_setM m i s h)
theorem getM_putAll : ∀ (l : List (Nat × Option Blk)) (m : Mem), uniq m → (∀ x ∈ l, (getM m x.1).isSome) → (l.map (·.1)).Nodup → ∀ k, getM (putAll m l) k = wrG (getM m) l k
  | [], _, _, _, _, _ => rfl
  | (i, s) :: l, m, hu, hl, hn, k => by
    have hi : (getM m i).isSome := hl (i, s) (by simp)
    have hset : ∀ j, getM (setM m i s) j = if j = i then s else getM m j := fun j => getM_setM m i s j hu hi
    simp only [List.map_cons, List.nodup_cons] at hn
    simp only [putAll, wrG]
    rw [getM_putAll l _ (uniq_setM m i s hu) (fun x hx => by
      rw [hset, if_neg (fun e => hn.1 (by rw [← e]; exact List.mem_map_of_mem hx))]
      exact hl x (by simp [hx])) hn.2 k]
    congr 1
    funext j
    exact hset j
theorem getM_newAll : ∀ (l : List Blk) (m : Mem) (nb : Nat) (k : Nat), getM (newAll m nb l) k = nwG (getM m) nb l k
  | [], _, _, _ => rfl
  | b :: l, m, nb, k => by
    simp only [newAll, nwG]
    rw [getM_newAll l]
    congr 1
    funext j
    exact getM_cons nb b m j
theorem uniq_newAll : ∀ (l : List Blk) (m : Mem) (nb : Nat), uniq m → (∀ i, nb ≤ i → getM m i = none) → uniq (newAll m nb l)
  | [], _, _, h, _ => h
  | b :: l, m, nb, h, hf => by
    refine uniq_newAll l _ (nb + 1) ⟨hf nb (Nat.le_refl _), h⟩ fun i hi => ?_
    rw [getM_cons, if_neg (by omega)]
    exact hf i (by omega)
theorem wrG_none {g : Nat → Option Blk} : ∀ (l : List (Nat × Option Blk)) (k : Nat), (∀ x ∈ l, x.1 ≠ k) → wrG g l k = g k
  | [], _, _ => rfl
  | (i, s) :: l, k, h => by
    simp only [wrG]
    have hne : ¬ k = i := fun e => h (i, s) (by simp) e.symm
    have : (fun j => if j = i then s else g j) k = g k := by simp [hne]
    rw [← this]
    exact wrG_none (g := fun j => if j = i then s else g j) l k fun x hx => h x (by simp [hx])
theorem wrG_mem {g : Nat → Option Blk} : ∀ (l : List (Nat × Option Blk)) (k : Nat) (b : Blk), wrG g l k = some b → g k = some b ∨ ∃ x ∈ l, x.1 = k ∧ x.2 = some b
  | [], _, _, h => .inl h
  | (i, s) :: l, k, b, h => by
    simp only [wrG] at h
    rcases wrG_mem l k b h with h | ⟨x, hx, h1, h2⟩
    · by_cases hk : k = i
      · rw [if_pos hk] at h; exact .inr ⟨(i, s), by simp, hk.symm, h⟩
      · rw [if_neg hk] at h; exact .inl h
    · exact .inr ⟨x, by simp [hx], h1, h2⟩
theorem nwG_mem {g : Nat → Option Blk} : ∀ (l : List Blk) (nb k : Nat) (b : Blk), nwG g nb l k = some b → g k = some b ∨ (nb ≤ k ∧ k < nb + l.length ∧ b ∈ l)
  | [], _, _, _, h => .inl h
  | c :: l, nb, k, b, h => by
    simp only [nwG] at h
    rcases nwG_mem l (nb + 1) k b h with h | ⟨h1, h2, h3⟩
    · by_cases hk : k = nb
      · rw [if_pos hk] at h; cases h; exact .inr ⟨by omega, by simp; omega, by simp⟩
      · rw [if_neg hk] at h; exact .inl h
    · exact .inr ⟨by omega, by simp; omega, by simp [h3]⟩
theorem below_pn {nb k i : Nat} (h : pn (below nb) nb k i = true) : below (nb + k) i = true := by
  simp only [pn, below, Bool.or_eq_true, decide_eq_true_eq, Bool.and_eq_true] at h ⊢
  omega
section
variable {P : Program} {E : Env} {a : Act} {w : World}
theorem MRel.post {s : St} {d : Dl} {E' : Env} {w' : World} {tm : Tr} {sz : Nat} {dec : List (Option Bool)} {cs : List (Bool × Bool)} {lg : List Nat} (hm : MRel E s w) (hd : OkD (below s.nb) (getM s.mem) s.nb d) (hp : Post w E (getM s.mem) s.nb d E' w') :
    MRel E' ⟨tm, sz, newAll (putAll s.mem d.wr) s.nb d.nw, s.nb + d.nw.length, dec, cs, lg⟩ w' ∧ Ext w E s w' E' ⟨tm, sz, newAll (putAll s.mem d.wr) s.nb d.nw, s.nb + d.nw.length, dec, cs, lg⟩ := by
  have hfree : ∀ i, s.nb ≤ i → getM s.mem i = none := by
    intro i hi
    cases h : getM s.mem i with
    | none => rfl
    | some b => have := (hm.okM i b h).1; omega
  have hget : getM (newAll (putAll s.mem d.wr) s.nb d.nw) = nwG (wrG (getM s.mem) d.wr) s.nb d.nw := by
    funext k
    rw [getM_newAll]
    congr 1
    funext j
    exact getM_putAll d.wr s.mem hm.uq hd.live hd.nd j
  have hsrc : ∀ i b, nwG (wrG (getM s.mem) d.wr) s.nb d.nw i = some b →
      ((getM s.mem i).isSome ∧ (getM s.mem i = some b ∨ ∃ x ∈ d.wr, x.1 = i ∧ x.2 = some b)) ∨ (s.nb ≤ i ∧ i < s.nb + d.nw.length ∧ b ∈ d.nw) := by
    intro i b h
    rcases nwG_mem _ _ _ _ h with h | h
    · rcases wrG_mem _ _ _ h with h | ⟨x, hx, h1, h2⟩
      · exact .inl ⟨by simp [h], .inl h⟩
      · exact .inl ⟨by rw [← h1]; exact hd.live x hx, .inr ⟨x, hx, h1, h2⟩⟩
    · exact .inr h
  refine ⟨⟨by rw [hget]; exact hp.rel, fun i b h => ?_, ?_⟩, ⟨Nat.le_add_right _ _, fun i hi => hp.agree i (.inl hi), hp.os, hp.tape, hp.output, hp.size, hp.frame, fun i hi => ?_⟩⟩
  · rw [hget] at h
    rcases hsrc i b h with ⟨h0, h1 | ⟨x, hx, h1, h2⟩⟩ | ⟨h1, h2, h3⟩
    · obtain ⟨g1, g2⟩ := hm.okM i b h1
      exact ⟨by show i < s.nb + _; omega, okL_mono (fun j hj => below_pn (pn_of hj)) g2⟩
    · obtain ⟨c, hc⟩ := Option.isSome_iff_exists.1 h0
      have g1 := (hm.okM i c hc).1
      exact ⟨by show i < s.nb + _; omega, okL_mono (fun j hj => below_pn hj) (hd.wr x hx b h2)⟩
    · exact ⟨h2, okL_mono (fun j hj => below_pn hj) (okBs_iff.1 hd.nw b h3)⟩
  · refine uniq_newAll _ _ _ (uniq_putAll _ _ hm.uq) fun i hi => ?_
    rw [getM_putAll d.wr s.mem hm.uq hd.live hd.nd i, wrG_none]
    · exact hfree i hi
    · intro x hx e
      have := hd.live x hx
      rw [e, hfree i hi] at this
      cases this
  · obtain ⟨b, hb⟩ := Option.isSome_iff_exists.1 hi
    rw [hget] at hb
    rcases hsrc i b hb with ⟨h0, _⟩ | ⟨h1, h2, _⟩
    · obtain ⟨c, hc⟩ := Option.isSome_iff_exists.1 h0
      exact .inr ⟨i, h0, by rw [hp.agree i (.inl (hm.okM i c hc).1)]⟩
    · exact hp.fresh i h1 h2
def updτ (τ : Nat → LV) (dst : Option Tmp) (v : LV) : Nat → LV :=
  match dst with
  | some d => fun t => if t = d then v else τ t
  | none => τ
theorem lt16 (d sz : Nat) (h1 : d < sz) (h2 : sz ≤ 60000) : d + 1 < 2 ^ 16 := by omega
theorem getD_set (xs : Array Value) (d t : Nat) (v : Value) (hd : d < xs.size) : (xs.setIfInBounds d v).getD t undef = if t = d then v else xs.getD t undef := by
  by_cases h : t = d
  · subst h
    simp [hd]
  · rw [if_neg h]
    simp [Array.getElem?_setIfInBounds_ne (Ne.symm h)]
theorem put_tm {s : St} (hsz : a.tmps.size = s.sz) (hle : s.sz ≤ 60000) {dst : Option Tmp} {v : LV} {β : Type} {k : Tr → Option β} {r : β} (h : putDK s dst v k = some r) :
    ∃ tm, k tm = some r ∧ (getT tm = updτ (getT s.tm) dst v ∧ ∀ d, dst = some d → d < s.sz) ∧ ∀ E' : Env, (a.put dst (v.den E')).tmps.size = s.sz ∧
      ((∀ t : Nat, a.tmps.getD t undef = (getT s.tm t).den E') → ∀ t : Nat, (a.put dst (v.den E')).tmps.getD t undef = (getT tm t).den E') := by
  unfold putDK at h
  split at h
  · rename_i d
    split at h
    · rename_i hlt
      rw [nblt] at hlt
      have hlt' : d < s.sz := by simpa using hlt
      rw [setTK_eq] at h
      refine ⟨_, h, ⟨?_, fun d' hd => by cases hd; exact hlt'⟩, fun E' => ⟨by simp [Act.put, hsz], fun ht t => ?_⟩⟩
      · funext t
        exact getT_setT 16 s.tm d v t (lt16 d s.sz hlt' hle)
      · rw [getT_setT 16 s.tm d v t (lt16 d s.sz hlt' hle)]
        simp only [Act.put]
        rw [getD_set a.tmps d t _ (by rw [hsz]; exact hlt')]
        by_cases hh : t = d
        · rw [if_pos hh, if_pos hh]
        · rw [if_neg hh, if_neg hh, ht t]
    · cases h
  · exact ⟨s.tm, h, ⟨rfl, fun d hd => by cases hd⟩, fun E' => ⟨hsz, fun ht t => ht t⟩⟩
theorem appK_spec {β : Type} {z : Md} {s : St} {dst : Option Tmp} {d : Dl} {dec : List (Option Bool)} {cs : List (Bool × Bool)} {k : St → Option β} {r : β} (hsz : a.tmps.size = s.sz) (hle : s.sz ≤ 60000)
    (h : appK z s dst d dec cs k = some r) :
    ∃ s1, k s1 = some r ∧ (Good s1 → (∀ c ∈ d.cs, c.1 = c.2) ∧ (∀ c ∈ cs, c.1 = c.2) ∧ Good s) ∧ s1.dec = dec ∧ s1.sz = s.sz ∧ s1.nb = s.nb + d.nw.length ∧ s1.mem = newAll (putAll s.mem d.wr) s.nb d.nw ∧
      (getT s1.tm = updτ (getT s.tm) dst d.val ∧ ∀ d', dst = some d' → d' < s.sz) ∧
      ∀ E', (a.put dst (d.val.den E')).tmps.size = s.sz ∧ ((∀ t : Nat, a.tmps.getD t undef = (getT s.tm t).den E') → ∀ t : Nat, (a.put dst (d.val.den E')).tmps.getD t undef = (getT s1.tm t).den E') := by
  unfold appK at h
  rw [forceN_eq, forceV_eq] at h
  obtain ⟨tm, h1, h2, h7⟩ := put_tm hsz hle h
  rw [putAllK_eq, newAllK_eq] at h1
  obtain ⟨lg', hlg, -, -⟩ := logK_eq s.lg d.wr (fun lg => csK z.z d.cs s.cs fun c1 => csK z.z cs c1 fun c2 => k ⟨tm, s.sz, newAll (putAll s.mem d.wr) s.nb d.nw, s.nb + d.nw.length, dec, c2, lg⟩)
  rw [hlg] at h1
  obtain ⟨c1, h3, h4⟩ := csK_spec h1
  obtain ⟨c2, h5, h6⟩ := csK_spec h3
  refine ⟨_, h5, fun hg => ?_, rfl, rfl, rfl, rfl, h2, h7⟩
  have g1 := h6 hg
  have g2 := h4 g1.2
  exact ⟨g2.1, g1.1, g2.2⟩
end
end Go.Lr

/- The local evaluator: guards, one step in whatever state, what a step hangs on. -/
namespace Go.Lr
open Go.RowKit
section
variable {P : Program} {S : FuncId → Option SumK} {E : Env} {τ : Nat → LV} {a : Act} {w : World} {g : Nat → Option Blk} {nb : Nat} {p : Nat → Bool}
theorem wants_spec {ops : Array Oper} {o : Oper} {gd : Option Bool} {b : Bool} {cs : List (Bool × Bool)} (hτ : ∀ t : Nat, a.tmps.getD t undef = (τ t).den E)
    (h : wants ops.toList τ o gd = some (b, cs)) (hc : ∀ c ∈ cs, c.1 = c.2) : Region.wanted o (yielded ops a.tmps) = b := by
  unfold wants at h
  unfold Region.wanted
  split at h
  · rename_i ho; rw [ho]; cases h; rfl
  · rename_i j want ho
    rw [ho]
    simp only
    split at h
    · rename_i t ht
      have hdst : (ops[j]?).bind (·.dst) = some t := by
        unfold guardTmp at ht
        have : ops.toList[j]? = ops[j]? := by simp
        rw [this] at ht
        split at ht
        · rename_i q hq; rw [hq]; exact ht
        · cases ht
      have hy : ∀ v, (τ t).den E = v → yielded ops a.tmps j = match (if t < a.tmps.size then some v else none) with | some (.bool b) => some b | _ => none := by
        intro v hv
        have := hτ t
        rw [hv] at this
        unfold yielded
        rw [hdst]
        simp only [Option.bind_some]
        by_cases hlt : t < a.tmps.size
        · rw [if_pos hlt]
          have h2 : a.tmps[t]? = some v := by
            rw [Array.getD_eq_getD_getElem?, Array.getElem?_eq_getElem hlt] at this
            rw [Array.getElem?_eq_getElem hlt]
            simpa using this
          rw [h2]
          cases v <;> rfl
        · rw [if_neg hlt, Array.getElem?_eq_none (Nat.le_of_not_lt hlt)]
      split at h
      · rename_i q hq
        have h1 := hy (.bool q) (by rw [hq]; rfl)
        have hlt : t < a.tmps.size := by
          have h2 := hτ t
          rw [hq] at h2
          by_cases hlt : t < a.tmps.size
          · exact hlt
          · rw [Array.getD_eq_getD_getElem?, Array.getElem?_eq_none (Nat.le_of_not_lt hlt)] at h2
            simp [undef, LV.den, V1.den, At.den] at h2
        rw [if_pos hlt] at h1
        rw [h1]
        split at h
        · rename_i c cs' hcs
          cases h
          have := isTrue_spec hcs hc
          subst this
          cases q <;> cases want <;> rfl
        · cases h
      · rename_i vs hq
        have h1 := hy (.tuple vs) (by rw [hq]; rfl)
        have : yielded ops a.tmps j = none := by rw [h1]; by_cases hlt : t < a.tmps.size <;> simp [hlt]
        rw [this]
        cases h
        cases want <;> rfl
      · cases h
    · cases h
def BinOK (P : Program) : Prop :=
  ∀ (E : Env) (w : World) (a : Act) (op : BinOp) (t : TypeId) (x y : LV) (xo yo : Operand) (kn : Bool) (d : Dl), a.eval xo = x.den E → a.eval yo = y.den E → binD P op t x y kn = some d →
    Pur P E w (do eqGuard op t xo yo (x.den E) (y.den E); binOp op t (x.den E) (y.den E)) d
theorem eval_tmp (hτ : ∀ t : Nat, a.tmps.getD t undef = (τ t).den E) : ∀ t, a.eval (.tmp t) = (τ t).den E := hτ
theorem skipD_post (hr : Rel E g w) : Post w E g nb skipD E w := .refl rfl rfl hr
theorem skipD_ok : OkD p g nb skipD := .plain rfl rfl rfl
theorem stepD_wp (hB : BinOK P) (hS : AllOK P S) {z : Md} {ops : Array Oper} {i : Nat} {o : Oper} {gd pd : Option Bool} {d : Dl} {cs : List (Bool × Bool)} (hi : ops[i]? = some o)
    (hτ : ∀ t : Nat, a.tmps.getD t undef = (τ t).den E) (hp : ∀ t, (τ t).ok p = true) (hr : Rel E g w) (hg : ∀ i c, g i = some c → p i = true ∧ okL p c.cells = true)
    (hn : ∀ i, nb ≤ i → i < nb + d.nw.length → p i = false)
    (h : stepD P S z ops.toList τ g nb gd pd o = some (d, cs)) (hc : ∀ c ∈ d.cs, c.1 = c.2) (hc' : ∀ c ∈ cs, c.1 = c.2) {K : Act → World → Prop} {Q : Exit → Act → World → Prop}
    (hk : ∀ E' w', Post w E g nb d E' w' → K (a.put o.dst (d.val.den E')) w') : wpOp P ops Q i K a w := by
  unfold wpOp
  simp only [hi]
  unfold stepD at h
  split at h
  · rename_i cs' hw
    split at h
    · rename_i d' hd
      cases h
      have := wants_spec (a := a) (E := E) (ops := ops) hτ hw hc'
      rw [this]
      simp only [if_true]
      exact .inl (opD_step hS (eval_tmp hτ) hp (fun op t x y xo yo kn d h1 h2 h3 => hB E w a op t x y xo yo kn d h1 h2 h3) hd hr hg hn hc K Q hk)
    · cases h
  · rename_i cs' hw
    cases h
    have := wants_spec (a := a) (E := E) (ops := ops) hτ hw hc'
    rw [this]
    simp only [Bool.false_eq_true, if_false]
    exact hk E w (skipD_post hr)
  · cases h
theorem stepD_ok {z : Md} {all : List Oper} {o : Oper} {gd pd : Option Bool} {d : Dl} {cs : List (Bool × Bool)} (hp : ∀ t, (τ t).ok p = true)
    (hg : ∀ i c, g i = some c → p i = true ∧ okL p c.cells = true) (h : stepD P S z all τ g nb gd pd o = some (d, cs)) : OkD p g nb d := by
  unfold stepD at h
  split at h
  · split at h
    · rename_i d' hd
      cases h
      exact opD_ok hp hd hg
    · cases h
  · cases h; exact skipD_ok
  · cases h
-- what a step hangs on
theorem ev_local {τ' : Nat → LV} {x : Operand} (h : ∀ t ∈ opTmps [x], τ' t = τ t) : ev τ' x = ev τ x := by
  cases x with
  | tmp t => simp [ev, h t (by simp [opTmps])]
  | _ => rfl
theorem opTmps_mem : ∀ {l : List Operand} {t : Tmp}, t ∈ opTmps l ↔ Operand.tmp t ∈ l
  | [], t => by simp [opTmps]
  | .tmp u :: l, t => by simp [opTmps, opTmps_mem (l := l)]
  | .const v :: l, t => by simp [opTmps, opTmps_mem (l := l)]
  | .global v :: l, t => by simp [opTmps, opTmps_mem (l := l)]
  | .func v :: l, t => by simp [opTmps, opTmps_mem (l := l)]
theorem ev_loc {τ' : Nat → LV} {l : List Operand} (h : ∀ t ∈ opTmps l, τ' t = τ t) {x : Operand} (hx : x ∈ l) : ev τ' x = ev τ x :=
  ev_local fun t ht => h t (by
    rw [opTmps_mem] at ht ⊢
    rw [List.mem_singleton] at ht
    rw [ht]; exact hx)
theorem evs_loc {τ' : Nat → LV} {l : List Operand} (h : ∀ t ∈ opTmps l, τ' t = τ t) : ∀ {xs : List Operand}, (∀ x ∈ xs, x ∈ l) → evs τ' xs = evs τ xs
  | [], _ => rfl
  | x :: xs, hx => by
    simp only [evs]
    rw [ev_loc h (hx x (by simp)), evs_loc h fun y hy => hx y (by simp [hy])]
theorem evParts_loc {τ' : Nat → LV} {l : List Operand} (h : ∀ t ∈ opTmps l, τ' t = τ t) : ∀ {xs : List (Nat × Operand)}, (∀ x ∈ xs, x.2 ∈ l) → evParts τ' xs = evParts τ xs
  | [], _ => rfl
  | (i, x) :: xs, hx => by
    simp only [evParts]
    rw [ev_loc h (hx (i, x) (by simp)), evParts_loc h fun y hy => hx y (by simp [hy])]
theorem oevs_loc {τ' : Nat → LV} {l : List Operand} (h : ∀ t ∈ opTmps l, τ' t = τ t) {x : Option Operand} (hx : ∀ y, x = some y → y ∈ l) : oevs τ' x = oevs τ x := by
  cases x with
  | none => rfl
  | some y => simp only [oevs]; rw [ev_loc h (hx y rfl)]
theorem loadD_loc {g' : Nat → Option Blk} {t : TypeId} {v : LV} {d : Dl} (h : loadD P t v g = some d) (hg : ∀ i ∈ d.rd ++ keys d.wr, g' i = g i) : loadD P t v g' = some d := by
  unfold loadD at h ⊢
  split at h
  · rename_i b o
    split at h
    · rename_i k hk
      split at h
      · rename_i x hx
        cases h
        have := hg b (by simp)
        simp [this, hk, hx]
      · cases h
    · cases h
  · cases h
theorem loadXD_loc {g' : Nat → Option Blk} {t : TypeId} {v : LV} {d : Dl} (h : loadXD P t v g = some d) (hg : ∀ i ∈ d.rd ++ keys d.wr, g' i = g i) : loadXD P t v g' = some d := by
  unfold loadXD at h ⊢
  split at h
  · rename_i b o
    split at h
    · rename_i k hk
      split at h
      · rename_i x cs hx
        cases h
        have := hg b (by simp)
        simp [this, hk, hx]
      · cases h
    · cases h
  · exact loadD_loc h hg
theorem storeP_loc {g' : Nat → Option Blk} {t : TypeId} {u v : LV} {d : Dl} (h : storeP P t u v g = some d) (hg : ∀ i ∈ d.rd ++ keys d.wr, g' i = g i) : storeP P t u v g' = some d := by
  unfold storeP at h ⊢
  split at h
  · rename_i b o
    split at h
    · rename_i ty es l hk
      split at h
      · rename_i vs n hvs hn
        split at h
        · rename_i r hlen hlay
          cases h
          have := hg b (by simp [keys])
          simp [this, hk, hlen, hlay]
        · cases h
      · cases h
    · cases h
  · cases h
theorem storeD_loc {g' : Nat → Option Blk} {t : TypeId} {u v : LV} {d : Dl} (h : storeD P t u v g = some d) (hg : ∀ i ∈ d.rd ++ keys d.wr, g' i = g i) : storeD P t u v g' = some d := by
  unfold storeD at h ⊢
  split at h
  · split at h
    · exact storeP_loc h hg
    have h0 := h
    obtain ⟨ty, es, l, z, hk, rfl, hs, hz, rfl⟩ := storeX_spec h
    have := hg _ (by simp [keys]; rfl)
    unfold storeX at h0 ⊢
    simp only [this]
    exact h0
  · exact storeP_loc h hg
theorem newsOf_loc {g' : Nat → Option Blk} {s : Nat} {x : LV} {m b : Nat} {news : List At} {cs : List (Bool × Bool)} (h : newsOf g s x = some (m, news, b, cs)) (hg : g' b = g b) : newsOf g' s x = some (m, news, b, cs) := by
  unfold newsOf at h ⊢
  split at h
  · split at h
    · rename_i k hk
      split at h
      · rename_i l hcut
        split at h
        · rename_i hall
          cases h
          simp [hg, hk, hcut, hall]
        · cases h
      · cases h
    · cases h
  · split at h
    · rename_i k hk
      split at h
      · rename_i l hcut
        split at h
        · rename_i hall
          cases h
          simp [hg, hk, hcut, hall]
        · cases h
      · cases h
    · cases h
  · split at h
    · rename_i k hk
      cases h
      simp [hg, hk]
    · cases h
  · cases h
theorem oldsOf_loc {g' : Nat → Option Blk} {e : TypeId} {s : Nat} {x : LV} {n : Nat} {old : List At} {kill : Option Nat} (h : oldsOf g e s x = some (n, old, kill)) (hg : ∀ q, kill = some q → g' q = g q) : oldsOf g' e s x = some (n, old, kill) := by
  have h0 := h
  unfold oldsOf at h
  split at h
  · exact h0
  · rename_i b n'
    split at h
    · rename_i ty es l hk
      split at h
      · cases h
        unfold oldsOf at h0 ⊢
        simp only [hg _ rfl] at h0 ⊢
        exact h0
      · cases h
    · cases h
  · exact h0
  · rename_i b n' c hne
    split at h
    · rename_i ty l hk
      split at h
      · cases h
        unfold oldsOf at h0 ⊢
        simp only [hg _ rfl] at h0 ⊢
        exact h0
      · cases h
    · cases h
  · cases h
theorem appendX_loc {g' : Nat → Option Blk} {ts : List TypeId} {args : List LV} {d : Dl} (h : appendX P nb g ts args = some d) (hg : ∀ i ∈ d.rd ++ keys d.wr, g' i = g i) : appendX P nb g' ts args = some d := by
  unfold appendX at h ⊢
  split at h
  · split at h
    · split at h
      · split at h
        · rename_i n old kill m news b cs hold hnews
          split at h
          · rename_i q1 q2 q3
            cases h
            have e1 : g' b = g b := hg b (by simp)
            have e2 : ∀ q, kill = some q → g' q = g q := fun q hq => by subst hq; exact hg q (by simp [optL])
            simp [oldsOf_loc hold e2, newsOf_loc hnews e1, q1, q2, q3]
          · cases h
        · cases h
      · cases h
    · cases h
  · cases h
theorem appendD_loc {g' : Nat → Option Blk} {ts : List TypeId} {args : List LV} {d : Dl} (h : appendD P nb g ts args = some d) (hg : ∀ i ∈ d.rd ++ keys d.wr, g' i = g i) : appendD P nb g' ts args = some d := by
  unfold appendD at h ⊢
  split at h
  · have h0 := h
    obtain ⟨t, e, i, -, -, -, hd⟩ := appendN_spec h
    unfold appendN at h0 ⊢
    rcases hd with ⟨rfl, hd⟩ | ⟨b, o, n, c, k, rfl, hk, -, rfl⟩ | ⟨b, n, ty, es, l, rfl, hk, -, -, rfl⟩
    · exact h0
    · have e1 : g' b = g b := hg b (by simp)
      simp only [e1]
      exact h0
    · have e1 : g' b = g b := hg b (by simp)
      simp only [e1]
      exact h0
  · exact appendX_loc h hg
theorem copyD_loc {g' : Nat → Option Blk} {ts : List TypeId} {args : List LV} {d : Dl} (h : copyD P g ts args = some d) (hg : ∀ i ∈ d.rd ++ keys d.wr, g' i = g i) : copyD P g' ts args = some d := by
  have h0 := h
  unfold copyD at h
  split at h
  · split at h
    · rename_i e b o n b' o' m hu hx hy
      split at h
      · split at h
        · split at h
          · cases h
            have e1 : g' b = g b := hg b (by simp)
            have e2 : g' b' = g b' := hg b' (by simp)
            unfold copyD at h0 ⊢
            simp only [hu, hx, hy, e1, e2] at h0 ⊢
            exact h0
          · cases h
        · cases h
      · cases h
    · cases h
  · cases h
theorem clearD_loc {g' : Nat → Option Blk} {ts : List TypeId} {args : List LV} {d : Dl} (h : clearD P g ts args = some d) (hg : ∀ i ∈ d.rd ++ keys d.wr, g' i = g i) : clearD P g' ts args = some d := by
  have h0 := h
  unfold clearD at h
  split at h
  · split at h
    · rename_i e b o n hu hx
      split at h
      · split at h
        · cases h
          have e1 : g' b = g b := hg b (by simp)
          unfold clearD at h0 ⊢
          simp only [hu, hx, e1] at h0 ⊢
          exact h0
        · cases h
      · cases h
    · cases h
  · cases h
theorem builtinM_loc {g' : Nat → Option Blk} {b : Builtin} {ts : List TypeId} {args : List LV} {d : Dl} (h : builtinM P g b ts args = some d) (hg : ∀ i ∈ d.rd ++ keys d.wr, g' i = g i) : builtinM P g' b ts args = some d := by
  unfold builtinM at h ⊢
  split at h
  · exact copyD_loc h hg
  · exact clearD_loc h hg
  · exact h
theorem sliceU_loc {g' : Nat → Option Blk} {t : TypeId} {c : Bool} {b n : Nat} {lo hi : Option LV} {d : Dl} (h : sliceU P g nb t c b n lo hi = some d) (hg : ∀ i ∈ d.rd ++ keys d.wr, g' i = g i) : sliceU P g' nb t c b n lo hi = some d := by
  have h0 := h
  have key : b ∈ d.rd → sliceU P g' nb t c b n lo hi = some d := fun hb => by
    have e1 : g' b = g b := hg b (by simp [hb])
    unfold sliceU at h0 ⊢
    simp only [e1]
    exact h0
  unfold sliceU at h
  split at h
  · split at h
    · split at h
      · split at h
        · cases h; exact key (by simp)
        · split at h
          · cases h; exact key (by simp)
          · split at h
            · cases h; exact key (by simp)
            · cases h
        · cases h
      · cases h
    · cases h
  · cases h
theorem slice3_loc {g' : Nat → Option Blk} {t : TypeId} {x : LV} {lo : Option LV} {hi mx : LV} {d : Dl} (h : slice3 P g t x lo hi mx = some d) (hg : ∀ i ∈ d.rd ++ keys d.wr, g' i = g i) : slice3 P g' t x lo hi mx = some d := by
  have h0 := h
  unfold slice3 at h
  split at h
  · rename_i e hu
    split at h
    · rename_i hs
      unfold slice3 at h0 ⊢
      simp only [hu, hs] at h0 ⊢
      exact h0
    · rename_i hs
      unfold slice3 at h0 ⊢
      simp only [hu, hs] at h0 ⊢
      exact h0
    · rename_i s b n hs
      have key : b ∈ d.rd → slice3 P g' t (.v (.one (.slu b n))) lo hi mx = some d := fun hb => by
        have e1 : g' b = g b := hg b (by simp [hb])
        unfold slice3 at h0 ⊢
        simp only [hu, hs, e1] at h0 ⊢
        exact h0
      split at h
      · split at h
        · split at h
          · split at h
            · split at h <;> (cases h; exact key (by simp))
            · cases h
          · cases h
        · cases h
      · cases h
    · cases h
  · cases h
theorem sliceM_loc {g' : Nat → Option Blk} {t : TypeId} {c : Bool} {x : LV} {lo hi mx : Option LV} {d : Dl} (h : sliceM P g nb t c x lo hi mx = some d) (hg : ∀ i ∈ d.rd ++ keys d.wr, g' i = g i) : sliceM P g' nb t c x lo hi mx = some d := by
  unfold sliceM at h ⊢
  split at h
  · split at h
    · exact slice3_loc h hg
    · cases h
  · split at h
    · exact sliceU_loc h hg
    · exact h
theorem liveAll_loc {g' : Nat → Option Blk} : ∀ {l : List Nat}, (∀ i ∈ l, g' i = g i) → liveAll g' l = liveAll g l
  | [], _ => rfl
  | b :: l, h => by
    simp only [liveAll]
    rw [h b (by simp), liveAll_loc fun i hi => h i (by simp [hi])]
theorem keys_eq : ∀ (l : List (Nat × Option Blk)), keys l = l.map (·.1)
  | [] => rfl
  | (i, s) :: l => by simp [keys, keys_eq l]
theorem sumD_loc {g' : Nat → Option Blk} {t : Tch} {d : Dl} (h : sumD t g nb = some d) (hg : ∀ i ∈ d.rd ++ keys d.wr, g' i = g i) : sumD t g' nb = some d := by
  have h0 := h
  unfold sumD at h
  split at h
  · split at h
    · split at h
      · split at h
        · cases h
          have h1 : liveAll g' t.rd = liveAll g t.rd := liveAll_loc fun i hi => hg i (by simp [hi])
          have h2 : liveAll g' t.wr = liveAll g t.wr := liveAll_loc fun i hi => hg i (by simp [hi])
          unfold sumD at h0 ⊢
          rw [h1, h2]
          exact h0
        · cases h
      · cases h
    · cases h
  · cases h
theorem allIn_mem : ∀ {l m : List Nat}, allIn l m = true → ∀ a ∈ l, a ∈ m
  | [], m, _, a, ha => by cases ha
  | b :: l, m, h, a, ha => by
    simp only [allIn] at h
    split at h
    · rename_i hb
      rcases List.mem_cons.1 ha with rfl | ha
      · exact memB_iff.1 hb
      · exact allIn_mem h a ha
    · cases h
theorem peekL_loc {g g' : Nat → Option Blk} : ∀ {l : List Nat}, (∀ b ∈ l, g' b = g b) → peekL g' l = peekL g l
  | [], _ => rfl
  | b :: l, h => by
    simp only [peekL]
    rw [h b (by simp), peekL_loc fun b hb => h b (by simp [hb])]
theorem reach_sub {g : Nat → Option Blk} : ∀ (n : Nat) (l seen r : List Nat), reach g n l seen = some r → ∀ i ∈ seen, i ∈ r
  | n, [], seen, r, h, i, hi => by cases n <;> (simp only [reach] at h; cases h; exact hi)
  | 0, _ :: _, _, _, h, _, _ => by simp [reach] at h
  | n + 1, b :: l, seen, r, h, i, hi => by
    simp only [reach] at h
    split at h
    · exact reach_sub n l seen r h i hi
    · split at h
      · exact reach_sub n _ _ r h i (List.mem_cons_of_mem _ hi)
      · cases h
theorem reach_loc {g g' : Nat → Option Blk} : ∀ (n : Nat) (l seen r : List Nat), reach g n l seen = some r → (∀ i ∈ r, g' i = g i) → reach g' n l seen = some r
  | n, [], seen, r, h, _ => by cases n <;> (simp only [reach] at h ⊢; exact h)
  | 0, _ :: _, _, _, h, _ => by simp [reach] at h
  | n + 1, b :: l, seen, r, h, hg => by
    simp only [reach] at h ⊢
    split at h
    · exact reach_loc n l seen r h hg
    · split at h
      · rename_i k hk
        have hb : b ∈ r := reach_sub n _ _ r h b (List.mem_cons_self ..)
        rw [hg b hb, hk]
        exact reach_loc n _ _ r h hg
      · cases h
theorem sumK_loc {g' : Nat → Option Blk} {s : SumK} {args : List LV} {d : Dl} (h : sumK s args g nb = some d) (hg : ∀ i ∈ d.rd ++ keys d.wr, g' i = g i) : sumK s args g' nb = some d := by
  cases s with
  | old s =>
    simp only [sumK] at h ⊢
    split at h
    · exact sumD_loc h hg
    · cases h
  | peek s =>
    simp only [sumK] at h ⊢
    split at h
    · rename_i t ht
      split at h
      · rename_i ha
        have hrd : d.rd = t.rd ++ t.wr := by
          obtain ⟨rB, wB, ans, ws, -, -, -, -, -, rfl⟩ := sumD_split h
          rfl
        have hpk : peekL g' (ptrBs args) = peekL g (ptrBs args) := peekL_loc fun b hb => hg b (by rw [hrd]; exact List.mem_append_left _ (allIn_mem ha b hb))
        rw [hpk, ht]
        simp only [ha]
        exact sumD_loc h hg
      · cases h
    · cases h
  | gen s =>
    simp only [sumK] at h ⊢
    split at h
    · rename_i seen hseen
      split at h
      · rename_i ks hks
        have hrd : d.rd = seen := by
          obtain ⟨d0, -, -, -, -, -, -, rfl⟩ := genK_split h
          rfl
        have hs : ∀ i ∈ seen, g' i = g i := fun i hi => hg i (List.mem_append_left _ (by rw [hrd]; exact hi))
        rw [reach_loc _ _ _ _ hseen hs]
        simp only [liveAll_loc hs, hks]
        exact h
      · cases h
    · cases h
theorem opD_loc {τ' : Nat → LV} {g' : Nat → Option Blk} {z : Bool} {pd : Option Bool} {op : Op} {d : Dl} (h : opD P S z τ g nb pd op = some d)
    (ht : ∀ t ∈ opTmps op.operands.toList, τ' t = τ t) (hg : ∀ i ∈ d.rd ++ keys d.wr, g' i = g i) : opD P S z τ' g' nb pd op = some d := by
  cases op <;> simp only [opD, on1, on2, onL, onP, moveD, reduceCtorEq] at h ⊢
  case move x => rw [ev_loc ht (x := x) (by simp [Op.operands])]; exact h
  case assign x => rw [ev_loc ht (x := x) (by simp [Op.operands])]; exact h
  case pick c x y =>
    unfold pickD at h ⊢
    rw [ev_loc ht (x := c) (by simp [Op.operands]), ev_loc ht (x := x) (by simp [Op.operands]), ev_loc ht (x := y) (by simp [Op.operands])]; exact h
  case alloc t => exact h
  case box t x => rw [ev_loc ht (x := x) (by simp [Op.operands])]; exact h
  case build t parts => rw [evParts_loc ht (xs := parts.toList) (fun x hx => by simp only [Op.operands]; exact List.mem_map_of_mem hx)]; exact h
  case buildSlice t n parts => rw [evParts_loc ht (xs := parts.toList) (fun x hx => by simp only [Op.operands]; exact List.mem_map_of_mem hx)]; exact h
  case load t x =>
    rw [ev_loc ht (x := x) (by simp [Op.operands])]
    split at h
    · exact loadXD_loc h hg
    · cases h
  case store t x y =>
    rw [ev_loc ht (x := x) (by simp [Op.operands]), ev_loc ht (x := y) (by simp [Op.operands])]
    split at h
    · split at h
      · exact storeD_loc h hg
      · cases h
    · cases h
  case nilCheck x => rw [ev_loc ht (x := x) (by simp [Op.operands])]; exact h
  case binOp op t x y ty => rw [ev_loc ht (x := x) (by simp [Op.operands]), ev_loc ht (x := y) (by simp [Op.operands])]; exact h
  case unOp op t x => rw [ev_loc ht (x := x) (by simp [Op.operands])]; exact h
  case convert t u x => rw [ev_loc ht (x := x) (by simp [Op.operands])]; exact h
  case makeFunc f first caps => rw [evs_loc ht (xs := caps.toList) (fun x hx => by simp [Op.operands]; right; simpa using hx)]; exact h
  case slice t x lo hi mx =>
    unfold slD at h ⊢
    rw [oevs_loc ht (x := lo) (fun y hy => by subst hy; simp [Op.operands]), oevs_loc ht (x := hi) (fun y hy => by subst hy; simp [Op.operands]), oevs_loc ht (x := mx) (fun y hy => by subst hy; simp [Op.operands])]
    simp only [on1] at h ⊢
    rw [ev_loc ht (x := x) (by simp [Op.operands])]
    split at h
    · split at h
      · split at h
        · split at h
          · exact sliceM_loc h hg
          · cases h
        · cases h
      · cases h
    · cases h
  case sliceToArrayPointer t x => rw [ev_loc ht (x := x) (by simp [Op.operands])]; exact h
  case fieldAddr t x i => rw [ev_loc ht (x := x) (by simp [Op.operands])]; exact h
  case field t x i => rw [ev_loc ht (x := x) (by simp [Op.operands])]; exact h
  case indexAddr t x i => rw [ev_loc ht (x := x) (by simp [Op.operands]), ev_loc ht (x := i) (by simp [Op.operands])]; exact h
  case index t x i => rw [ev_loc ht (x := x) (by simp [Op.operands]), ev_loc ht (x := i) (by simp [Op.operands])]; exact h
  case extract x i => rw [ev_loc ht (x := x) (by simp [Op.operands])]; exact h
  case call c =>
    have hargs : evs τ' c.args.toList = evs τ c.args.toList := evs_loc ht fun x hx => by
      simp only [Op.operands, Call.operands]
      cases c.callee <;> simp <;> first | exact Or.inr (by simpa using hx) | simpa using hx
    have hcal : callee τ' c = callee τ c := by
      unfold callee
      split
      · rename_i f hf
        rw [hargs, ev_loc ht (x := f) (by simp [Op.operands, Call.operands, hf])]
      · rfl
    unfold callD at h ⊢
    rw [hcal]
    simp only [onL] at h ⊢
    rw [hargs]
    split at h
    · split at h
      · exact appendD_loc h hg
      · cases h
    · split at h
      · exact builtinM_loc h hg
      · cases h
    · split at h
      · rename_i f args hc
        split at h
        · rename_i s hs
          exact sumK_loc h hg
        · cases h
      · cases h
theorem wants_loc {τ' : Nat → LV} {all : List Oper} {o : Oper} {gd : Option Bool} (h : ∀ j w t, o.guard = some (j, w) → guardTmp all j = some t → τ' t = τ t) : wants all τ' o gd = wants all τ o gd := by
  unfold wants
  split
  · rfl
  · rename_i j want ho
    split
    · rename_i t ht
      rw [h j want t ho ht]
    · rfl
theorem stepD_loc {τ' : Nat → LV} {g' : Nat → Option Blk} {z : Md} {all : List Oper} {r : Rec} (h : stepD P S z all τ g r.nb r.gd r.pd r.o = some (r.d, r.gcs))
    (ht : ∀ t ∈ r.rT all, τ' t = τ t) (hg : ∀ i ∈ r.d.rd ++ keys r.d.wr, g' i = g i) : stepD P S z all τ' g' r.nb r.gd r.pd r.o = some (r.d, r.gcs) := by
  have hops : ∀ t ∈ opTmps r.o.op.operands.toList, τ' t = τ t := by
    intro t htm
    refine ht t ?_
    unfold Rec.rT
    split
    · split
      · exact List.mem_cons_of_mem _ htm
      · exact htm
    · exact htm
  have hw : wants all τ' r.o r.gd = wants all τ r.o r.gd := wants_loc fun j w t h1 h2 => ht t (by unfold Rec.rT; simp [h1, h2])
  unfold stepD at h ⊢
  rw [hw]
  cases hc : wants all τ r.o r.gd with
  | none => rw [hc] at h; cases h
  | some q =>
    obtain ⟨b, cs⟩ := q
    rw [hc] at h
    cases b with
    | false => exact h
    | true =>
      simp only at h ⊢
      cases hd : opD P S z.z τ g r.nb r.pd r.o.op with
      | none => rw [hd] at h; cases h
      | some d =>
        rw [hd] at h
        cases h
        rw [opD_loc hd hops hg]
end
end Go.Lr

/- The local evaluator: a region that draws its order. -/
namespace Go.Lr
open Go.RowKit
structure AS where
  τ : Nat → LV
  g : Nat → Option Blk
def Rec.go (r : Rec) (s : AS) : AS := ⟨updτ s.τ r.o.dst r.d.val, nwG (wrG s.g r.d.wr) r.nb r.d.nw⟩
def fin : List Rec → AS → AS
  | [], s => s
  | r :: l, s => fin l (r.go s)
section
variable {P : Program} {S : FuncId → Option SumK} {z : Md} {all : List Oper}
def Val (P : Program) (S : FuncId → Option SumK) (z : Md) (all : List Oper) (r : Rec) (s : AS) : Prop :=
  stepD P S z all s.τ s.g r.nb r.gd r.pd r.o = some (r.d, r.gcs)
def chain (P : Program) (S : FuncId → Option SumK) (z : Md) (all : List Oper) : List Rec → AS → Prop
  | [], _ => True
  | r :: l, s => Val P S z all r s ∧ chain P S z all l (r.go s)
theorem anyMem_false : ∀ {l m : List Nat}, anyMem l m = false → ∀ i ∈ l, i ∉ m
  | [], m, _ => by simp
  | a :: l, m, h => by
    simp only [anyMem] at h
    cases hm : memB m a with
    | true => rw [hm] at h; cases h
    | false =>
      rw [hm] at h
      intro i hi
      rcases List.mem_cons.1 hi with rfl | hi
      · exact fun hh => by rw [memB_iff.2 hh] at hm; cases hm
      · exact anyMem_false h i hi
theorem news_mem : ∀ (l : List Blk) (nb i : Nat), i ∈ news nb l ↔ nb ≤ i ∧ i < nb + l.length
  | [], nb, i => by simp [news]
  | b :: l, nb, i => by
    simp only [news, List.mem_cons, news_mem l, List.length_cons]
    omega
structure Apart (all : List Oper) (x y : Rec) : Prop where
  xy : ∀ d, x.o.dst = some d → d ∉ y.rT all
  yx : ∀ d, y.o.dst = some d → d ∉ x.rT all
  dd : ∀ d, x.o.dst = some d → y.o.dst ≠ some d
  bxy : ∀ i ∈ x.wB, i ∉ y.d.rd ++ y.wB
  byx : ∀ i ∈ y.wB, i ∉ x.d.rd ++ x.wB
theorem conf_apart {x y : Rec} (h : conf all x y = false) : Apart all x y := by
  simp only [conf, Bool.or_eq_false_iff] at h
  obtain ⟨⟨⟨⟨h1, h2⟩, h3⟩, h4⟩, h5⟩ := h
  refine ⟨fun d hd hm => ?_, fun d hd hm => ?_, fun d hd he => ?_, anyMem_false h4, anyMem_false h5⟩
  · rw [hd] at h1; simp only [optMem] at h1; rw [memB_iff.2 hm] at h1; cases h1
  · rw [hd] at h2; simp only [optMem] at h2; rw [memB_iff.2 hm] at h2; cases h2
  · rw [hd, he] at h3; simp [optEq] at h3
theorem go_τ {r : Rec} {s : AS} {t : Nat} (h : ∀ d, r.o.dst = some d → d ≠ t) : (r.go s).τ t = s.τ t := by
  unfold Rec.go updτ
  cases hd : r.o.dst with
  | none => rfl
  | some d => simp [Ne.symm (h d hd)]
theorem nwG_none {g : Nat → Option Blk} : ∀ (l : List Blk) (nb k : Nat), (k < nb ∨ nb + l.length ≤ k) → nwG g nb l k = g k
  | [], _, _, _ => rfl
  | b :: l, nb, k, h => by
    simp only [nwG]
    simp only [List.length_cons] at h
    rw [nwG_none l (nb + 1) k (by omega), if_neg (by omega)]
theorem go_g {r : Rec} {s : AS} {i : Nat} (h : i ∉ r.wB) : (r.go s).g i = s.g i := by
  unfold Rec.wB at h
  rw [List.mem_append, news_mem, keys_eq] at h
  unfold Rec.go
  simp only
  rw [nwG_none _ _ _ (by omega), wrG_none]
  intro x hx e
  exact h (.inl (by rw [← e]; exact List.mem_map_of_mem hx))
theorem Val.loc {r : Rec} {s s' : AS} (h : Val P S z all r s) (ht : ∀ t ∈ r.rT all, s'.τ t = s.τ t) (hg : ∀ i ∈ r.d.rd ++ keys r.d.wr, s'.g i = s.g i) : Val P S z all r s' :=
  stepD_loc h ht hg
theorem Apart.back {x y : Rec} (h : Apart all x y) {s : AS} (hv : Val P S z all y (x.go s)) : Val P S z all y s := by
  refine hv.loc (fun t ht => (go_τ fun d hd e => h.xy d hd (e ▸ ht)).symm) fun i hi => (go_g fun hx => h.bxy i hx ?_).symm
  rw [List.mem_append] at hi ⊢
  rcases hi with hi | hi
  · exact .inl hi
  · exact .inr (by unfold Rec.wB; rw [List.mem_append]; exact .inl hi)
theorem Apart.fore {x y : Rec} (h : Apart all x y) {s : AS} (hv : Val P S z all x s) : Val P S z all x (y.go s) := by
  refine hv.loc (fun t ht => go_τ fun d hd e => h.yx d hd (e ▸ ht)) fun i hi => go_g fun hy => h.byx i hy ?_
  rw [List.mem_append] at hi ⊢
  rcases hi with hi | hi
  · exact .inl hi
  · exact .inr (by unfold Rec.wB; rw [List.mem_append]; exact .inl hi)
theorem wrG_congr {g g' : Nat → Option Blk} : ∀ (l : List (Nat × Option Blk)) (k : Nat), (k ∈ l.map (·.1) ∨ g k = g' k) → wrG g l k = wrG g' l k
  | [], k, h => by
    rcases h with h | h
    · simp at h
    · exact h
  | (i, s) :: l, k, h => by
    simp only [wrG]
    refine wrG_congr l k ?_
    simp only [List.map_cons, List.mem_cons] at h
    by_cases hk : k = i
    · exact .inr (by simp [hk])
    · rcases h with (h | h) | h
      · exact absurd h hk
      · exact .inl h
      · exact .inr (by simp [hk, h])
theorem nwG_congr {g g' : Nat → Option Blk} : ∀ (l : List Blk) (nb k : Nat), ((nb ≤ k ∧ k < nb + l.length) ∨ g k = g' k) → nwG g nb l k = nwG g' nb l k
  | [], nb, k, h => by
    rcases h with h | h
    · simp at h; omega
    · exact h
  | b :: l, nb, k, h => by
    simp only [nwG]
    refine nwG_congr l (nb + 1) k ?_
    simp only [List.length_cons] at h
    by_cases hk : k = nb
    · exact .inr (by simp [hk])
    · rcases h with h | h
      · exact .inl (by omega)
      · exact .inr (by simp [hk, h])
theorem go_mem {r : Rec} {s s' : AS} {i : Nat} (h : i ∈ r.wB) : (r.go s).g i = (r.go s').g i := by
  unfold Rec.wB at h
  rw [List.mem_append, news_mem, keys_eq] at h
  unfold Rec.go
  simp only
  rcases h with h | h
  · exact nwG_congr _ _ _ (.inr (wrG_congr _ _ (.inl h)))
  · exact nwG_congr _ _ _ (.inl h)
theorem Apart.comm {x y : Rec} (h : Apart all x y) (s : AS) : x.go (y.go s) = y.go (x.go s) := by
  have hτ : (x.go (y.go s)).τ = (y.go (x.go s)).τ := by
    funext t
    unfold Rec.go updτ
    cases hx : x.o.dst with
    | none => cases hy : y.o.dst <;> rfl
    | some d =>
      cases hy : y.o.dst with
      | none => rfl
      | some e =>
        have hne : d ≠ e := fun he => h.dd d hx (by rw [hy, he])
        simp only
        by_cases h1 : t = d
        · by_cases h2 : t = e
          · exact absurd (h1.symm.trans h2) hne
          · simp [h1, hne]
        · by_cases h2 : t = e
          · simp [h2, Ne.symm hne]
          · simp [h1, h2]
  have hg : (x.go (y.go s)).g = (y.go (x.go s)).g := by
    funext i
    by_cases hx : i ∈ x.wB
    · have hy : i ∉ y.wB := fun hy => h.byx i hy (by rw [List.mem_append]; exact .inr hx)
      rw [go_g hy, go_mem (s' := s) hx]
    · by_cases hy : i ∈ y.wB
      · rw [go_g hx, go_mem (s' := x.go s) hy]
      · rw [go_g hx, go_g hy, go_g hy, go_g hx]
  cases h1 : x.go (y.go s)
  cases h2 : y.go (x.go s)
  rw [h1, h2] at hτ hg
  simp only at hτ hg
  rw [hτ, hg]
theorem chain_front {r : Rec} {B : List Rec} : ∀ {A : List Rec} {s : AS}, chain P S z all (A ++ r :: B) s → (∀ x ∈ A, Apart all x r) →
    Val P S z all r s ∧ chain P S z all (A ++ B) (r.go s) ∧ fin (A ++ r :: B) s = fin (A ++ B) (r.go s)
  | [], s, h, _ => ⟨h.1, h.2, rfl⟩
  | x :: A, s, h, ha => by
    obtain ⟨h1, h2⟩ := h
    obtain ⟨g1, g2, g3⟩ := chain_front h2 fun y hy => ha y (by simp [hy])
    have hx := ha x (by simp)
    refine ⟨hx.back g1, ⟨hx.fore h1, ?_⟩, ?_⟩
    · show chain P S z all (A ++ B) (x.go (r.go s))
      rw [hx.comm s]
      exact g2
    · show fin (A ++ r :: B) (x.go s) = fin (A ++ B) (x.go (r.go s))
      rw [g3, hx.comm s]
end
end Go.Lr

/- The local evaluator: a region that draws its order, whatever the order. -/
namespace Go.Lr
open Go.RowKit
structure StOK (s : St) : Prop where
  okT : ∀ t, (getT s.tm t).ok (below s.nb) = true
  okM : ∀ i b, getM s.mem i = some b → i < s.nb ∧ okL (below s.nb) b.cells = true
  uq : uniq s.mem
theorem StOK.okM' {s : St} (h : StOK s) : ∀ i c, getM s.mem i = some c → below s.nb i = true ∧ okL (below s.nb) c.cells = true :=
  fun i c hc => ⟨by have := (h.okM i c hc).1; simpa [below] using this, (h.okM i c hc).2⟩
theorem StOK.free {s : St} (h : StOK s) {i : Nat} (hi : s.nb ≤ i) : getM s.mem i = none := by
  cases hc : getM s.mem i with
  | none => rfl
  | some b => have := (h.okM i b hc).1; omega
theorem StOK.get {s : St} (h : StOK s) {d : Dl} (hd : OkD (below s.nb) (getM s.mem) s.nb d) : getM (newAll (putAll s.mem d.wr) s.nb d.nw) = nwG (wrG (getM s.mem) d.wr) s.nb d.nw := by
  funext k
  rw [getM_newAll]
  congr 1
  funext j
  exact getM_putAll d.wr s.mem h.uq hd.live hd.nd j
theorem StOK.app {s s1 : St} (h : StOK s) {d : Dl} {dst : Option Tmp} (hd : OkD (below s.nb) (getM s.mem) s.nb d) (h1 : s1.nb = s.nb + d.nw.length) (h2 : s1.mem = newAll (putAll s.mem d.wr) s.nb d.nw)
    (h3 : getT s1.tm = updτ (getT s.tm) dst d.val) : StOK s1 := by
  have hmono : ∀ i, below s.nb i = true → below s1.nb i = true := fun i hi => by simp only [below, decide_eq_true_eq] at hi ⊢; omega
  have hpn : ∀ i, pn (below s.nb) s.nb d.nw.length i = true → below s1.nb i = true := fun i hi => by rw [h1]; exact below_pn hi
  refine ⟨fun t => ?_, fun i b hb => ?_, ?_⟩
  · rw [h3]
    unfold updτ
    cases dst with
    | none => exact LV.ok_mono hmono (h.okT t)
    | some e =>
      by_cases ht : t = e
      · simp only [ht, if_true]; exact LV.ok_mono hpn hd.val
      · simp only [ht, if_false]; exact LV.ok_mono hmono (h.okT t)
  · rw [h2, h.get hd] at hb
    rcases nwG_mem _ _ _ _ hb with hb | ⟨g1, g2, g3⟩
    · rcases wrG_mem _ _ _ hb with hb | ⟨x, hx, e1, e2⟩
      · exact ⟨by have := (h.okM i b hb).1; omega, okL_mono hmono (h.okM i b hb).2⟩
      · obtain ⟨c, hc⟩ := Option.isSome_iff_exists.1 (hd.live x hx)
        rw [e1] at hc
        exact ⟨by have := (h.okM i c hc).1; omega, okL_mono hpn (hd.wr x hx b e2)⟩
    · exact ⟨by omega, okL_mono hpn (okBs_iff.1 hd.nw b g3)⟩
  · rw [h2]
    refine uniq_newAll _ _ _ (uniq_putAll _ _ h.uq) fun i hi => ?_
    rw [getM_putAll d.wr s.mem h.uq hd.live hd.nd i, wrG_none]
    · exact h.free hi
    · intro x hx e
      have := hd.live x hx
      rw [e, h.free hi] at this
      cases this
section
variable {P : Program} {S : FuncId → Option SumK} {z : Md} {all : List Oper}
def St.as (s : St) : AS := ⟨getT s.tm, getM s.mem⟩
def ranged : Nat → List Rec → Nat → Prop
  | n, [], m => n ≤ m
  | n, r :: l, m => n ≤ r.nb ∧ ranged (r.nb + r.d.nw.length) l m
theorem drawSeq_spec : ∀ {l : List Oper} {s : St} {acc : List Rec} {s' : St} {acc' : List Rec}, drawSeq P S z all l s acc = some (s', acc') → s.sz ≤ 60000 → StOK s →
    ∃ recs : List Rec, acc' = recs.reverse ++ acc ∧ recs.map (·.o) = l ∧ chain P S z all recs s.as ∧ fin recs s.as = s'.as ∧ ranged s.nb recs s'.nb ∧
      (∀ r ∈ recs, ∀ d, r.o.dst = some d → d < s.sz) ∧ s'.sz = s.sz ∧ StOK s' ∧ (Good s' → Good s ∧ ∀ r ∈ recs, (∀ c ∈ r.d.cs, c.1 = c.2) ∧ (∀ c ∈ r.gcs, c.1 = c.2))
  | [], s, acc, s', acc', h, _, hs => by
    simp only [drawSeq] at h
    cases h
    exact ⟨[], by simp, rfl, trivial, rfl, Nat.le_refl _, by simp, rfl, hs, fun hg => ⟨hg, by simp⟩⟩
  | o :: l, s, acc, s', acc', h, hsz, hs => by
    simp only [drawSeq] at h
    generalize decs z o s.dec = q at h
    obtain ⟨gd, pd, dec⟩ := q
    simp only at h
    split at h
    · rename_i d cs hd
      obtain ⟨s1, h1, h2, h3, h4, h5, h6, h7, _⟩ := appK_spec (a := { tmps := Array.replicate s.sz undef, defers := [] }) (by simp) hsz h
      have hok := stepD_ok (fun t => hs.okT t) hs.okM' hd
      have hs1 : StOK s1 := hs.app hok h5 h6 h7.1
      have has : s1.as = (Rec.mk o gd pd s.nb cs d).go s.as := by
        unfold St.as Rec.go
        simp only [h6, h7.1, hs.get hok]
      obtain ⟨recs, e1, e2, e3, e4, e5, e6, e7, e8, e9⟩ := drawSeq_spec h1 (by rw [h4]; exact hsz) hs1
      refine ⟨⟨o, gd, pd, s.nb, cs, d⟩ :: recs, by rw [e1]; simp, by simp [e2], ⟨hd, by rw [← has]; exact e3⟩, by rw [← e4, has]; rfl, ⟨Nat.le_refl _, by rw [← h5]; exact e5⟩, ?_, e7.trans h4, e8, fun hg => ?_⟩
      · intro r hr d' hd'
        rcases List.mem_cons.1 hr with rfl | hr
        · exact h7.2 d' hd'
        · have := e6 r hr d' hd'; rw [h4] at this; exact this
      · obtain ⟨g1, g2⟩ := e9 hg
        obtain ⟨c1, c2, c3⟩ := h2 g1
        refine ⟨c3, fun r hr => ?_⟩
        rcases List.mem_cons.1 hr with rfl | hr
        · exact ⟨c1, c2⟩
        · exact g2 r hr
    · cases h
theorem revR_eq : ∀ (l acc : List Rec), revR l acc = l.reverse ++ acc
  | [], _ => rfl
  | r :: l, acc => by simp [revR, revR_eq l]
-- what must go ahead of what
theorem preMask_bit {m : List Nat} : ∀ {l : List Edge} {x : Nat}, (preMask m l).testBit x = true → ∃ e ∈ l, Region.binds .any e = true ∧ (e.on = x ∨ (m.getD e.on 0).testBit x = true)
  | [], x, h => by simp [preMask] at h
  | e :: l, x, h => by
    simp only [preMask] at h
    split at h
    · rename_i hb
      simp only [Nat.testBit_or, Bool.or_eq_true, Nat.one_shiftLeft, Nat.testBit_two_pow, decide_eq_true_eq] at h
      rcases h with (h | h) | h
      · exact ⟨e, by simp, hb, .inl h⟩
      · exact ⟨e, by simp, hb, .inr h⟩
      · obtain ⟨e', h1, h2, h3⟩ := preMask_bit h
        exact ⟨e', by simp [h1], h2, h3⟩
    · obtain ⟨e', h1, h2, h3⟩ := preMask_bit h
      exact ⟨e', by simp [h1], h2, h3⟩
theorem masksOf_pre : ∀ (l : List Oper) (acc : List Nat), ∃ m, masksOf l acc = acc ++ m ∧ m.length = l.length
  | [], acc => ⟨[], by simp [masksOf], rfl⟩
  | o :: l, acc => by
    obtain ⟨m, h1, h2⟩ := masksOf_pre l (acc ++ [preMask acc o.after.toList])
    exact ⟨preMask acc o.after.toList :: m, by simp [masksOf, h1], by simp [h2]⟩
theorem masksOf_at : ∀ (l : List Oper) (acc : List Nat) (j : Nat) (o : Oper), l[j]? = some o → (masksOf l acc).getD (acc.length + j) 0 = preMask ((masksOf l acc).take (acc.length + j)) o.after.toList
  | [], acc, j, o, h => by simp at h
  | o' :: l, acc, 0, o, h => by
    simp only [List.getElem?_cons_zero, Option.some.injEq] at h
    subst h
    obtain ⟨m, h1, _⟩ := masksOf_pre l (acc ++ [preMask acc o'.after.toList])
    simp only [masksOf, h1]
    simp
  | o' :: l, acc, j + 1, o, h => by
    have := masksOf_at l (acc ++ [preMask acc o'.after.toList]) j o (by simpa using h)
    simp only [masksOf]
    simp only [List.length_append, List.length_cons, List.length_nil] at this
    rw [show acc.length + (j + 1) = acc.length + (0 + 1) + j by omega]
    exact this
theorem edgesDown_spec : ∀ {l : List Edge} {j : Nat}, edgesDown j l = true → ∀ e ∈ l, Region.binds .any e = true → e.on < j
  | [], j, _ => by simp
  | e :: l, j, h => by
    simp only [edgesDown] at h
    intro e' he' hb
    rcases List.mem_cons.1 he' with rfl | he'
    · rw [hb] at h
      simp only [nblt] at h
      split at h
      · rename_i hh; simpa using hh
      · cases h
    · split at h
      · split at h
        · exact edgesDown_spec h e' he' hb
        · cases h
      · exact edgesDown_spec h e' he' hb
theorem opsDown_spec : ∀ {l : List Oper} {j : Nat}, opsDown j l = true → ∀ k o, l[k]? = some o → ∀ e ∈ o.after.toList, Region.binds .any e = true → e.on < j + k
  | [], j, _, k, o, h => by simp at h
  | o' :: l, j, h, k, o, hk => by
    simp only [opsDown] at h
    split at h
    · rename_i hh
      cases k with
      | zero =>
        simp only [List.getElem?_cons_zero, Option.some.injEq] at hk
        subst hk
        exact edgesDown_spec hh
      | succ k =>
        intro e he hb
        have := opsDown_spec h k o (by simpa using hk) e he hb
        omega
    · cases h
theorem mask_listed {ops : List Oper} (hd : opsDown 0 ops = true) (L : Nat → Prop) (hL : ∀ k o, ops[k]? = some o → L k → ∀ e ∈ o.after.toList, Region.binds .any e = true → L e.on) :
    ∀ (j : Nat) (o : Oper), ops[j]? = some o → (∀ e ∈ o.after.toList, Region.binds .any e = true → L e.on) → ∀ x, ((masksOf ops []).getD j 0).testBit x = true → L x := by
  intro j
  induction j using Nat.strongRecOn with
  | _ j ih =>
    intro o ho hready x hx
    have hm := masksOf_at ops [] j o ho
    simp only [List.length_nil, Nat.zero_add] at hm
    rw [hm] at hx
    obtain ⟨e, he, hb, hor⟩ := preMask_bit hx
    have hlt : e.on < j := by have := opsDown_spec hd j o ho e he hb; omega
    rcases hor with h | h
    · rw [← h]; exact hready e he hb
    · have hget : ((masksOf ops []).take j).getD e.on 0 = (masksOf ops []).getD e.on 0 := by
        simp [List.getD, List.getElem?_take_of_lt hlt]
      rw [hget] at h
      have hjl : j < ops.length := (List.getElem?_eq_some_iff.1 ho).1
      have he' : ops[e.on]? = some ops[e.on] := List.getElem?_eq_getElem (by omega)
      exact ih e.on hlt _ he' (hL e.on _ he' (hready e he hb)) x h
theorem freeOf_spec {mask : Nat} {y : Rec} : ∀ {l : List Rec} {i : Nat}, freeOf all mask y i l = true → ∀ k x, l[k]? = some x → conf all x y = true → mask.testBit (i + k) = true
  | [], i, _, k, x, h => by simp at h
  | x' :: l, i, h, k, x, hk => by
    intro hc
    simp only [freeOf] at h
    cases k with
    | zero =>
      simp only [List.getElem?_cons_zero, Option.some.injEq] at hk
      subst hk
      split at h
      · rename_i hh; simpa using hh
      · rw [hc] at h; cases h
    | succ k =>
      have hrest : freeOf all mask y (i + 1) l = true := by
        split at h
        · exact h
        · split at h
          · cases h
          · exact h
      have := freeOf_spec hrest k x (by simpa using hk) hc
      rw [show i + (k + 1) = i + 1 + k by omega]
      exact this
theorem freeAll_spec {masks : List Nat} : ∀ {l : List Rec} {j : Nat} {done : List Rec}, freeAll all masks j done l = true → done.length = j →
    ∀ k y, l[k]? = some y → ∀ i x, i < j + k → (done ++ l)[i]? = some x → conf all x y = true → (masks.getD (j + k) 0).testBit i = true
  | [], j, done, _, _, k, y, h => by simp at h
  | y' :: l, j, done, h, hj, k, y, hk => by
    intro i x hi hx hc
    simp only [freeAll] at h
    split at h
    · rename_i hh
      cases k with
      | zero =>
        simp only [List.getElem?_cons_zero, Option.some.injEq] at hk
        subst hk
        rw [List.getElem?_append_left (by omega)] at hx
        have := freeOf_spec hh i x hx hc
        simpa using this
      | succ k =>
        have := freeAll_spec h (by simp [hj]) k y (by simpa using hk) i x (by omega) (by simpa using hx) hc
        rw [show j + (k + 1) = j + 1 + k by omega]
        exact this
    · cases h
end
end Go.Lr

/- The local evaluator: a region that draws its order, against the model. -/
namespace Go.Lr
open Go.RowKit
structure RA (sz : Nat) (E : Env) (p : Nat → Bool) (s : AS) (a : Act) (w : World) : Prop where
  size : a.tmps.size = sz
  tm : ∀ t : Nat, a.tmps.getD t undef = (s.τ t).den E
  defers : a.defers = []
  okT : ∀ t, (s.τ t).ok p = true
  rel : Rel E s.g w
  okM : ∀ i c, s.g i = some c → p i = true ∧ okL p c.cells = true
structure ExtG (N : Nat) (w : World) (E : Env) (g : Nat → Option Blk) (w' : World) (E' : Env) (g' : Nat → Option Blk) : Prop where
  agree : ∀ i, i < N → E' i = E i
  os : w'.os = w.os
  tape : w'.tape = w.tape
  output : w'.output = w.output
  size : w.heap.size ≤ w'.heap.size
  frame : ∀ b, b < w.heap.size → (∀ i, (g i).isSome → (E i).1 ≠ b) → w'.heap[b]? = w.heap[b]?
  src : ∀ i, (g' i).isSome → w.heap.size ≤ (E' i).1 ∨ ∃ j, (g j).isSome ∧ (E' i).1 = (E j).1
theorem ExtG.refl (N : Nat) (w : World) (E : Env) (g : Nat → Option Blk) : ExtG N w E g w E g :=
  ⟨fun _ _ => rfl, rfl, rfl, rfl, Nat.le_refl _, fun _ _ _ => rfl, fun i hi => .inr ⟨i, hi, rfl⟩⟩
theorem ExtG.trans {N : Nat} {w w1 w2 : World} {E E1 E2 : Env} {g g1 g2 : Nat → Option Blk} (h : ExtG N w E g w1 E1 g1) (k : ExtG N w1 E1 g1 w2 E2 g2) : ExtG N w E g w2 E2 g2 := by
  refine ⟨fun i hi => (k.agree i hi).trans (h.agree i hi), k.os.trans h.os, k.tape.trans h.tape, k.output.trans h.output, Nat.le_trans h.size k.size, fun b hb hn => ?_, fun i hi => ?_⟩
  · rw [← h.frame b hb hn]
    refine k.frame b (Nat.lt_of_lt_of_le hb h.size) fun i hi he => ?_
    rcases h.src i hi with h1 | ⟨j, hj, h1⟩
    · omega
    · exact hn j hj (h1.symm.trans he)
  · rcases k.src i hi with h1 | ⟨j, hj, h1⟩
    · exact .inl (Nat.le_trans h.size h1)
    · rcases h.src j hj with h2 | ⟨q, hq, h2⟩
      · exact .inl (by omega)
      · exact .inr ⟨q, hq, h1.trans h2⟩
section
variable {P : Program} {S : FuncId → Option SumK} {z : Md} {ops : Array Oper}
theorem step_ra (hB : BinOK P) (hS : AllOK P S) {N sz i : Nat} {E : Env} {p : Nat → Bool} {s : AS} {a : Act} {w : World} {r : Rec} (hi : ops[i]? = some r.o) (hra : RA sz E p s a w) (hv : Val P S z ops.toList r s)
    (hN : N ≤ r.nb) (hfree : ∀ i, r.nb ≤ i → i < r.nb + r.d.nw.length → p i = false) (hdst : ∀ d, r.o.dst = some d → d < sz) (hc : ∀ c ∈ r.d.cs, c.1 = c.2) (hc' : ∀ c ∈ r.gcs, c.1 = c.2)
    {K : Act → World → Prop} {Q : Exit → Act → World → Prop}
    (hk : ∀ E' a' w', RA sz E' (pn p r.nb r.d.nw.length) (r.go s) a' w' → ExtG N w E s.g w' E' (r.go s).g → K a' w') : wpOp P ops Q i K a w := by
  have hok : OkD p s.g r.nb r.d := stepD_ok hra.okT hra.okM hv
  refine stepD_wp hB hS hi hra.tm hra.okT hra.rel hra.okM hfree hv hc hc' fun E' w' hp => ?_
  have hag : ∀ i, p i = true → E' i = E i := by
    intro j hj
    refine hp.agree j ?_
    by_cases h : r.nb ≤ j ∧ j < r.nb + r.d.nw.length
    · rw [hfree j h.1 h.2] at hj; cases hj
    · omega
  refine hk E' _ w' ⟨?_, fun t => ?_, ?_, fun t => ?_, hp.rel, fun j c hj => ?_⟩ ⟨fun j hj => hp.agree j (.inl (by omega)), hp.os, hp.tape, hp.output, hp.size, hp.frame, fun j hj => ?_⟩
  · cases hd : r.o.dst <;> simp [Act.put, hra.size]
  · unfold Rec.go updτ
    cases hd : r.o.dst with
    | none =>
      simp only [Act.put]
      rw [hra.tm t, LV.den_congr hag (hra.okT t)]
    | some d =>
      simp only [Act.put]
      rw [getD_set a.tmps d t _ (by rw [hra.size]; exact hdst d hd)]
      by_cases ht : t = d
      · simp [ht]
      · rw [if_neg ht, if_neg ht, hra.tm t, LV.den_congr hag (hra.okT t)]
  · cases hd : r.o.dst <;> exact hra.defers
  · unfold Rec.go updτ
    cases hd : r.o.dst with
    | none => exact LV.ok_mono (fun _ h => pn_of h) (hra.okT t)
    | some d =>
      by_cases ht : t = d
      · simp only [ht, if_true]; exact hok.val
      · simp only [ht, if_false]; exact LV.ok_mono (fun _ h => pn_of h) (hra.okT t)
  · have hj' : nwG (wrG s.g r.d.wr) r.nb r.d.nw j = some c := hj
    rcases nwG_mem _ _ _ _ hj' with h | ⟨g1, g2, g3⟩
    · rcases wrG_mem _ _ _ h with h | ⟨x, hx, e1, e2⟩
      · exact ⟨pn_of (hra.okM j c h).1, okL_mono (fun _ h => pn_of h) (hra.okM j c h).2⟩
      · obtain ⟨c', hc''⟩ := Option.isSome_iff_exists.1 (hok.live x hx)
        rw [e1] at hc''
        exact ⟨pn_of (hra.okM j c' hc'').1, hok.wr x hx c e2⟩
    · exact ⟨by simp [pn, g1, g2], okBs_iff.1 hok.nw c g3⟩
  · obtain ⟨c, hjc⟩ := Option.isSome_iff_exists.1 hj
    have hj' : nwG (wrG s.g r.d.wr) r.nb r.d.nw j = some c := hjc
    rcases nwG_mem _ _ _ _ hj' with h | ⟨g1, g2, _⟩
    · have hlive : (s.g j).isSome := by
        rcases wrG_mem _ _ _ h with h | ⟨x, hx, e1, _⟩
        · simp [h]
        · rw [← e1]; exact hok.live x hx
      obtain ⟨c', hc''⟩ := Option.isSome_iff_exists.1 hlive
      exact .inr ⟨j, hlive, by rw [hag j (hra.okM j c' hc'').1]⟩
    · exact hp.fresh j g1 g2
structure Todo (recs : List Rec) (listed : Array Bool) (rem : List (Nat × Rec)) : Prop where
  mem : ∀ (i : Nat) (r : Rec), (i, r) ∈ rem ↔ recs[i]? = some r ∧ listed.getD i true = false
  sorted : rem.Pairwise fun x y => x.1 < y.1
theorem ranged_le : ∀ {l : List Rec} {n m : Nat}, ranged n l m → n ≤ m
  | [], n, m, h => h
  | r :: l, n, m, h => by have := ranged_le h.2; have := h.1; omega
theorem ranged_at : ∀ {l : List Rec} {n m : Nat}, ranged n l m → ∀ (i : Nat) (r : Rec), l[i]? = some r → n ≤ r.nb ∧ r.nb + r.d.nw.length ≤ m
  | [], n, m, _, i, r, h => by simp at h
  | r' :: l, n, m, h, i, r, hi => by
    cases i with
    | zero =>
      simp only [List.getElem?_cons_zero, Option.some.injEq] at hi
      subst hi
      exact ⟨h.1, ranged_le h.2⟩
    | succ i =>
      obtain ⟨h1, h2⟩ := ranged_at h.2 i r (by simpa using hi)
      exact ⟨by have := h.1; omega, h2⟩
theorem ranged_apart : ∀ {l : List Rec} {n m : Nat}, ranged n l m → ∀ (i j : Nat) (x y : Rec), i < j → l[i]? = some x → l[j]? = some y → x.nb + x.d.nw.length ≤ y.nb
  | [], n, m, _, i, j, x, y, _ => fun h => by simp at h
  | r' :: l, n, m, h, i, j, x, y, hij => by
    intro hi hj
    cases j with
    | zero => omega
    | succ j =>
      cases i with
      | zero =>
        simp only [List.getElem?_cons_zero, Option.some.injEq] at hi
        subst hi
        exact (ranged_at h.2 j y (by simpa using hj)).1
      | succ i => exact ranged_apart h.2 i j x y (by omega) (by simpa using hi) (by simpa using hj)
theorem split_at {rem : List (Nat × Rec)} {i : Nat} {r : Rec} (h : (i, r) ∈ rem) : ∃ A B, rem = A ++ (i, r) :: B := List.append_of_mem h
theorem draw_main (hB : BinOK P) (hS : AllOK P S) {N sz M : Nat} {recs : List Rec} (hrec : recs.map (·.o) = ops.toList) (hdown : opsDown 0 ops.toList = true)
    (hconf : ∀ (i j : Nat) (x y : Rec), i < j → recs[i]? = some x → recs[j]? = some y → conf ops.toList x y = true → ((masksOf ops.toList []).getD j 0).testBit i = true)
    (hrng : ranged N recs M) (hdst : ∀ r ∈ recs, ∀ d, r.o.dst = some d → d < sz) (hcs : ∀ r ∈ recs, (∀ c ∈ r.d.cs, c.1 = c.2) ∧ (∀ c ∈ r.gcs, c.1 = c.2)) {Q : Exit → Act → World → Prop} :
    ∀ (fuel : Nat) (rem : List (Nat × Rec)) (listed : Array Bool) (s : AS) (E : Env) (p : Nat → Bool) (a : Act) (w : World), rem.length = fuel → listed.size = ops.size → Todo recs listed rem →
      (∀ k o, ops[k]? = some o → listed.getD k true = true → ∀ e ∈ o.after.toList, Region.binds .any e = true → listed.getD e.on false = true) →
      chain P S z ops.toList (rem.map (·.2)) s → RA sz E p s a w → (∀ i, p i = true → i < M) → (∀ i, p i = true → ∀ x ∈ rem, ¬(x.2.nb ≤ i ∧ i < x.2.nb + x.2.d.nw.length)) →
      (∀ E' p' a' w', RA sz E' p' (fin (rem.map (·.2)) s) a' w' → (∀ i, p' i = true → i < M) → ExtG N w E s.g w' E' (fin (rem.map (·.2)) s).g → Q .normal a' w') →
      wpAny P .any ops Q fuel listed a w := by
  have hopsrec : ∀ (i : Nat) (r : Rec), recs[i]? = some r → ops[i]? = some r.o := by
    intro i r h
    have : (recs.map (·.o))[i]? = some r.o := by simp [h]
    rw [hrec] at this
    simpa using this
  have hlen : recs.length = ops.size := by have := congrArg List.length hrec; simpa using this
  -- an operation that is not listed, the first of them: ready
  have hready0 : ∀ (rem : List (Nat × Rec)) (listed : Array Bool), listed.size = ops.size → Todo recs listed rem → Region.ready .any ops listed = [] → rem = [] := by
    intro rem listed hls ht hr
    cases rem with
    | nil => rfl
    | cons x rem =>
      exfalso
      obtain ⟨i, r⟩ := x
      obtain ⟨h1, h2⟩ := (ht.mem i r).1 (by simp)
      have hops := hopsrec i r h1
      have hi : i < ops.size := (Array.getElem?_eq_some_iff.1 hops).1
      have hmem : i ∈ Region.ready .any ops listed := by
        unfold Region.ready
        simp only [List.mem_filter, List.mem_range, hi, true_and, h2, Bool.not_false, hops, Option.map_some, Option.getD_some, Bool.true_and]
        rw [Array.all_eq_true]
        intro k hk
        by_cases hb : Region.binds .any r.o.after[k] = true
        · have hlt := opsDown_spec hdown i r.o (by simpa using hops) r.o.after[k] (by simp) hb
          simp only [Nat.zero_add] at hlt
          have hlst : listed.getD r.o.after[k].on false = true := by
            have hsz : r.o.after[k].on < listed.size := by omega
            cases hh : listed.getD r.o.after[k].on true with
            | true =>
              have e1 : listed.getD r.o.after[k].on false = listed.getD r.o.after[k].on true := by simp [hsz]
              rw [e1]; exact hh
            | false =>
              exfalso
              have hql : r.o.after[k].on < recs.length := by omega
              obtain ⟨q, hq⟩ : ∃ q, recs[r.o.after[k].on]? = some q := ⟨_, List.getElem?_eq_getElem hql⟩
              have := (ht.mem _ q).2 ⟨hq, hh⟩
              rcases List.mem_cons.1 this with he | he
              · injection he with e1 _; omega
              · have := List.rel_of_pairwise_cons ht.sorted he
                simp only at this
                omega
          simp [hlst]
        · simp [hb]
      rw [hr] at hmem
      cases hmem
  intro fuel
  induction fuel with
  | zero =>
    intro rem listed s E p a w hf hls ht hcl hch hra hpM hpf hQ
    have hrem : rem = [] := List.length_eq_zero_iff.1 hf
    subst hrem
    refine ⟨?_, hQ E p a w hra hpM (.refl _ _ _ _)⟩
    cases hr : Region.ready .any ops listed with
    | nil => rfl
    | cons i l =>
      exfalso
      have hi : i ∈ Region.ready .any ops listed := by rw [hr]; simp
      unfold Region.ready at hi
      simp only [List.mem_filter, List.mem_range, Bool.and_eq_true, Bool.not_eq_true'] at hi
      have hql : i < recs.length := by omega
      obtain ⟨q, hq⟩ : ∃ q, recs[i]? = some q := ⟨_, List.getElem?_eq_getElem hql⟩
      have := (ht.mem i q).2 ⟨hq, hi.2.1⟩
      cases this
  | succ fuel ih =>
    intro rem listed s E p a w hf hls ht hcl hch hra hpM hpf hQ
    refine ⟨fun hr => ?_, fun i hi => ?_⟩
    · have := hready0 rem listed hls ht hr
      rw [this] at hf
      simp at hf
    · unfold Region.ready at hi
      simp only [List.mem_filter, List.mem_range, Bool.and_eq_true, Bool.not_eq_true'] at hi
      obtain ⟨hilt, hnl, haft⟩ := hi
      have hql : i < recs.length := by omega
      obtain ⟨r, hr⟩ : ∃ q, recs[i]? = some q := ⟨_, List.getElem?_eq_getElem hql⟩
      have hops := hopsrec i r hr
      have hin : (i, r) ∈ rem := (ht.mem i r).2 ⟨hr, hnl⟩
      have hedges : ∀ e ∈ r.o.after.toList, Region.binds .any e = true → listed.getD e.on false = true := by
        intro e he hb
        rw [hops] at haft
        simp only [Option.map_some, Option.getD_some] at haft
        rw [Array.all_eq_true'] at haft
        have := haft e (by simpa using he)
        simpa [hb] using this
      obtain ⟨A, B, rfl⟩ := split_at hin
      have hsorted := ht.sorted
      rw [List.pairwise_append] at hsorted
      obtain ⟨_, hsB, hAB⟩ := hsorted
      have hapart : ∀ x ∈ A.map (·.2), Apart ops.toList x r := by
        intro x hx
        obtain ⟨⟨k, x'⟩, hk, rfl⟩ := List.mem_map.1 hx
        obtain ⟨g1, g2⟩ := (ht.mem k x').1 (by simp [hk])
        have hki : k < i := hAB (k, x') hk (i, r) (by simp)
        refine conf_apart ?_
        cases hc : conf ops.toList x' r with
        | false => rfl
        | true =>
          exfalso
          have hbit := hconf k i x' r hki g1 hr hc
          have := mask_listed hdown (fun q => listed.getD q true = true) (fun q o hq hl e he hb => by
            have hx := hcl q o (by simpa using hq) hl e he hb
            have hsz : e.on < listed.size := by
              by_cases hh : e.on < listed.size
              · exact hh
              · simp [Array.getD, hh] at hx
            simpa [hsz] using hx) i r.o (by simpa using hops) (fun e he hb => by
            have hx := hedges e he hb
            have hsz : e.on < listed.size := by
              by_cases hh : e.on < listed.size
              · exact hh
              · simp [Array.getD, hh] at hx
            simpa [hsz] using hx) k hbit
          rw [g2] at this
          cases this
      rw [List.map_append, List.map_cons] at hch hQ
      obtain ⟨c1, c2, c3⟩ := chain_front hch hapart
      have hrin : r ∈ recs := List.mem_of_getElem? hr
      refine step_ra hB hS (N := N) hops hra c1 (ranged_at hrng i r hr).1 (fun j h1 h2 => ?_) (hdst r hrin) (hcs r hrin).1 (hcs r hrin).2 fun E' a' w' hra' hext => ?_
      · cases hpj : p j with
        | false => rfl
        | true => exact absurd ⟨h1, h2⟩ (hpf j hpj (i, r) (by simp))
      · have hsz' : (listed.setIfInBounds i true).size = ops.size := by simp [hls]
        have hget : ∀ q d, (listed.setIfInBounds i true).getD q d = if q = i then true else listed.getD q d := by
          intro q d
          by_cases hq : q = i
          · subst hq
            have : q < listed.size := by omega
            simp [this]
          · rw [if_neg hq]
            simp [Array.getElem?_setIfInBounds_ne (Ne.symm hq)]
        refine ih (A ++ B) (listed.setIfInBounds i true) (r.go s) E' _ a' w' (by simp at hf ⊢; omega) hsz' ⟨fun j x => ?_, ?_⟩ (fun k o hk hl e he hb => ?_) (by rw [List.map_append]; exact c2) hra' (fun j hj => ?_) (fun j hj x hx => ?_) ?_
        · rw [hget j true]
          have hm := ht.mem j x
          by_cases hji : j = i
          · subst hji
            rw [if_pos rfl]
            refine ⟨fun h => ?_, fun h => absurd h.2 (by simp)⟩
            exfalso
            rcases List.mem_append.1 h with h | h
            · have := hAB (j, x) h (j, r) (by simp)
              simp at this
            · have := List.rel_of_pairwise_cons hsB h
              simp at this
          · rw [if_neg hji, ← hm]
            constructor
            · intro h
              rcases List.mem_append.1 h with h | h
              · simp [h]
              · simp [h]
            · intro h
              rcases List.mem_append.1 h with h | h
              · simp [h]
              · rcases List.mem_cons.1 h with h | h
                · injection h with e1 _; exact absurd e1 hji
                · simp [h]
        · refine ht.sorted.sublist ?_
          exact List.Sublist.append_left (List.sublist_cons_self _ _) A
        · rw [hget] at hl ⊢
          by_cases hki : k = i
          · subst hki
            rw [hops] at hk
            cases hk
            have := hedges e he hb
            by_cases he' : e.on = k <;> simp [he', this]
          · rw [if_neg hki] at hl
            have := hcl k o hk hl e he hb
            by_cases he' : e.on = i <;> simp [he', this]
        · simp only [pn, Bool.or_eq_true, Bool.and_eq_true, decide_eq_true_eq] at hj
          rcases hj with hj | hj
          · exact hpM j hj
          · have := (ranged_at hrng i r hr).2; omega
        · simp only [pn, Bool.or_eq_true, Bool.and_eq_true, decide_eq_true_eq] at hj
          have hxin : x ∈ A ++ (i, r) :: B := by
            rcases List.mem_append.1 hx with h | h
            · simp [h]
            · simp [h]
          rcases hj with hj | hj
          · exact hpf j hj x hxin
          · intro hcon
            obtain ⟨k, y⟩ := x
            obtain ⟨g1, _⟩ := (ht.mem k y).1 hxin
            have hne : k ≠ i := by
              rintro rfl
              rcases List.mem_append.1 hx with h | h
              · have := hAB (k, y) h (k, r) (by simp); simp at this
              · have := List.rel_of_pairwise_cons hsB h; simp at this
            rcases Nat.lt_or_gt_of_ne hne with hlt | hlt
            · have := ranged_apart hrng k i y r hlt g1 hr; simp only at hcon; omega
            · have := ranged_apart hrng i k r y hlt hr g1; simp only at hcon; omega
        · intro E'' p'' a'' w'' h1 h2 h3
          rw [List.map_append] at h1 h3
          rw [← c3] at h1 h3
          exact hQ E'' p'' a'' w'' h1 h2 (hext.trans h3)
end
end Go.Lr

/- The local evaluator: whole bodies, loops, calls walked into, against the model. -/
namespace Go.Lr
open Go.RowKit
def Ex.to : Ex → Exit
  | .normal => .normal
  | .exit id => .exit id
  | .ret => .ret
section
variable {P : Program} {S : FuncId → Option SumK} {z : Md}
theorem R.st {E : Env} {s : St} {a : Act} {w : World} (h : R E s a w) : StOK s := ⟨h.okT, h.m.okM, h.m.uq⟩
theorem drawRun_wp (hB : BinOK P) (hS : AllOK P S) (hmix : P.follows .mixedOrders = true) {ops : Array Oper} {s s' : St} (h : drawRun P S z ops.toList s = some s') (hsz : s.sz ≤ 60000) (hs : StOK s) :
    (Good s' → Good s) ∧ StOK s' ∧ s'.sz = s.sz ∧ s.nb ≤ s'.nb ∧ (Good s' → ∀ (id : Nat) (E : Env) (a : Act) (w : World), R E s a w → ∀ Q : Exit → Act → World → Prop, (∀ E' a' w', R E' s' a' w' → Ext w E s w' E' s' → Q .normal a' w') →
      (Code.region id ops true).wp P Q a w) := by
  unfold drawRun at h
  split at h
  · rename_i s1 acc hd
    split at h
    · rename_i hfree hdown
      cases h
      obtain ⟨recs, e1, e2, e3, e4, e5, e6, e7, e8, e9⟩ := drawSeq_spec hd hsz hs
      refine ⟨fun hg => (e9 hg).1, e8, e7, ranged_le e5, fun hg id E a w hr Q hQ => ?_⟩
      obtain ⟨g1, g2⟩ := e9 hg
      refine wp_region_any hmix ?_
      have hrev : revR acc [] = recs := by rw [revR_eq, e1]; simp
      rw [hrev] at hfree
      have hlen : recs.length = ops.size := by have := congrArg List.length e2; simpa using this
      have hrem : ((List.range recs.length).zip recs).map (·.2) = recs := by
        rw [List.map_snd_zip]; simp
      refine draw_main (z := z) (N := s.nb) (sz := s.sz) (M := s'.nb) hB hS e2 hdown (fun i j x y hij hx hy hc => ?_) e5 e6 g2 ops.size ((List.range recs.length).zip recs) (Array.replicate ops.size false) s.as E (below s.nb) a { w with drawn := w.drawn + 1 } ?_ ?_ ⟨fun i r => ?_, ?_⟩ ?_ ?_ ?_ ?_ ?_ ?_
      · have := freeAll_spec hfree rfl j y hy i x (by omega) (by simpa using hx) hc
        simpa using this
      · simp [hlen]
      · simp
      · constructor
        · intro h
          obtain ⟨k, hk⟩ := List.mem_iff_getElem?.1 h
          rw [List.getElem?_zip_eq_some] at hk
          obtain ⟨k1, k2⟩ := hk
          have hkl : k < recs.length := (List.getElem?_eq_some_iff.1 k2).1
          rw [List.getElem?_range hkl] at k1
          cases k1
          refine ⟨k2, ?_⟩
          have : i < ops.size := by omega
          simp [this]
        · intro h
          obtain ⟨h1, _⟩ := h
          have hkl : i < recs.length := (List.getElem?_eq_some_iff.1 h1).1
          refine List.mem_iff_getElem?.2 ⟨i, ?_⟩
          rw [List.getElem?_zip_eq_some]
          exact ⟨List.getElem?_range hkl, h1⟩
      · have hp : (((List.range recs.length).zip recs).map (·.1)).Pairwise (· < ·) := by
          rw [List.map_fst_zip (by simp)]
          exact List.pairwise_lt_range
        exact (List.pairwise_map.1 hp)
      · intro k o hk hl
        exfalso
        have : k < ops.size := (Array.getElem?_eq_some_iff.1 hk).1
        simp [this] at hl
      · rw [hrem]; exact e3
      · exact ⟨hr.size, hr.tm, hr.defers, hr.okT, ⟨fun i b hb => hr.m.rel.blk i b hb, hr.m.rel.inj⟩, hs.okM'⟩
      · intro i hi
        have := ranged_le e5
        simp only [below, decide_eq_true_eq] at hi
        omega
      · intro i hi x hx
        obtain ⟨k, r⟩ := x
        have hr' : r ∈ recs := (List.of_mem_zip hx).2
        obtain ⟨q, hq⟩ := List.mem_iff_getElem?.1 hr'
        have := (ranged_at e5 q r hq).1
        simp only [below, decide_eq_true_eq] at hi
        simp only
        omega
      · intro E' p' a' w' h1 h2 h3
        rw [hrem, e4] at h1 h3
        have hmono : ∀ i, p' i = true → below s'.nb i = true := fun i hi => by simpa [below] using h2 i hi
        refine hQ E' a' w' ⟨h1.size.trans e7.symm, by rw [e7]; exact hsz, h1.tm, h1.defers, e8.okT, ⟨h1.rel, e8.okM, e8.uq⟩⟩ ?_
        exact ⟨ranged_le e5, h3.agree, h3.os, h3.tape, h3.output, h3.size, h3.frame, h3.src⟩
    · cases h
  · cases h
-- results
def resSem (tmps : Array Value) : ResultVar → Sem Value
  | .tmp t => pure (tmps.getD t undef)
  | .cell a t => do loadVar t (← asAddr (tmps.getD a undef))
theorem results_eq (fn : Func) (tmps : Array Value) : results fn tmps = (do let vs ← fn.results.mapM (resSem tmps); pure (if h : vs.size = 1 then vs[0] else .tuple vs)) := by
  have : resSem tmps = (fun r => match r with
      | .tmp t => pure (tmps.getD t undef)
      | .cell a t => do loadVar t (← asAddr (tmps.getD a undef))) := by
    funext r
    cases r <;> rfl
  rw [this]
  rfl
theorem resVals_spec {E : Env} {s : St} {w : World} {tmps : Array Value} (hm : Rel E (getM s.mem) w) (hτ : ∀ t : Nat, tmps.getD t undef = (getT s.tm t).den E) : ∀ {rs : List ResultVar} {vs : List LV}, resVals P (getT s.tm) s.mem rs = some vs →
    (rs.mapM (resSem tmps)).run P w = .ok (vs.map (LV.den E)) w
  | [], vs, h => by simp only [resVals] at h; cases h; simp
  | r :: rs, vs, h => by
    simp only [resVals] at h
    split at h
    · rename_i v vs' hv hvs
      cases h
      have h1 : (resSem tmps r).run P w = .ok (v.den E) w := by
        cases r with
        | tmp t =>
          simp only [resVal, Option.some.injEq] at hv
          subst hv
          simp only [resSem, Sem.run_pure, hτ t]
        | cell a t =>
          simp only [resVal] at hv
          split at hv
          · rename_i d hd
            cases hv
            unfold loadD at hd
            split at hd
            · rename_i b o hb
              split at hd
              · rename_i k hk
                split at hd
                · rename_i x hx
                  cases hd
                  have := loadVar_spec (P := P) (hm.blk b k hk) hx
                  simp only [resSem, Sem.run_bind, hτ a, hb, den_ptr, asAddr, Sem.run_pure, Result.andThen_ok, this]
                  rfl
                · cases hd
              · cases hd
            · cases hd
          · cases hv
      simp only [List.mapM_cons, Sem.run_bind, h1, Result.andThen_ok, resVals_spec hm hτ hvs, Sem.run_pure, List.map_cons]
    · cases h
theorem oneVs_spec {E : Env} : ∀ {vs : List LV} {l : List V1}, oneVs vs = some l → vs.map (LV.den E) = l.map (V1.den E)
  | [], l, h => by simp only [oneVs] at h; cases h; rfl
  | .v x :: vs, l, h => by
    simp only [oneVs] at h
    split at h
    · rename_i r hr; cases h; simp [oneVs_spec hr, LV.den]
    · cases h
  | .tup _ :: vs, l, h => by simp [oneVs] at h
theorem resultsD_spec {E : Env} {s : St} {w : World} {tmps : Array Value} {fn : Func} {v : LV} (hm : Rel E (getM s.mem) w) (hτ : ∀ t : Nat, tmps.getD t undef = (getT s.tm t).den E)
    (h : resultsD P fn.results.toList (getT s.tm) s.mem = some v) : (results fn tmps).run P w = .ok (v.den E) w := by
  have key : ∀ vs, resVals P (getT s.tm) s.mem fn.results.toList = some vs → (results fn tmps).run P w = .ok (if h : (vs.map (LV.den E)).toArray.size = 1 then (vs.map (LV.den E)).toArray[0] else .tuple (vs.map (LV.den E)).toArray) w := by
    intro vs hvs
    have := resVals_spec (P := P) hm hτ hvs
    rw [results_eq, Array.mapM_eq_mapM_toList]
    simp only [Sem.run_bind, Sem.run_map]
    rw [this]
    simp only [Result.andThen_ok, Sem.run_pure]
  unfold resultsD at h
  split at h
  · rename_i u hu
    cases h
    rw [key _ hu]
    simp
  · rename_i vs hne hvs
    split at h
    · rename_i l hl
      cases h
      rw [key _ hvs]
      rw [dif_neg]
      · simp only [LV.den]
        rw [oneVs_spec hl]
      · intro h1
        have : vs.length = 1 := by simpa using h1
        match vs, this with
        | [x], _ => exact hne x rfl
    · cases h
  · cases h
theorem resVals_ok {p : Nat → Bool} {τ : Nat → LV} {m : Mem} (hτ : ∀ t, (τ t).ok p = true) (hg : ∀ i c, getM m i = some c → p i = true ∧ okL p c.cells = true) : ∀ {rs : List ResultVar} {vs : List LV}, resVals P τ m rs = some vs → ∀ v ∈ vs, v.ok p = true
  | [], vs, h => by simp only [resVals] at h; cases h; simp
  | r :: rs, vs, h => by
    simp only [resVals] at h
    split at h
    · rename_i v vs' hv hvs
      cases h
      simp only [List.mem_cons, forall_eq_or_imp]
      refine ⟨?_, resVals_ok hτ hg hvs⟩
      cases r with
      | tmp t => simp only [resVal, Option.some.injEq] at hv; subst hv; exact hτ t
      | cell a t =>
        simp only [resVal] at hv
        split at hv
        · rename_i d hd
          cases hv
          unfold loadD at hd
          split at hd
          · split at hd
            · rename_i k hk
              split at hd
              · rename_i x hx
                cases hd
                exact partV_ok hx (hg _ _ hk).2
              · cases hd
            · cases hd
          · cases hd
        · cases hv
    · cases h
theorem oneVs_ok {p : Nat → Bool} : ∀ {vs : List LV} {l : List V1}, oneVs vs = some l → (∀ v ∈ vs, v.ok p = true) → okVs p l = true
  | [], l, h, _ => by simp only [oneVs] at h; cases h; rfl
  | .v x :: vs, l, h, hv => by
    simp only [oneVs] at h
    split at h
    · rename_i r hr
      cases h
      rw [okVs_iff]
      simp only [List.mem_cons, forall_eq_or_imp]
      exact ⟨hv (.v x) (by simp), okVs_iff.1 (oneVs_ok hr fun v hm => hv v (by simp [hm]))⟩
    · cases h
  | .tup _ :: vs, l, h, _ => by simp [oneVs] at h
theorem resultsD_ok {p : Nat → Bool} {τ : Nat → LV} {m : Mem} {rs : List ResultVar} {v : LV} (hτ : ∀ t, (τ t).ok p = true) (hg : ∀ i c, getM m i = some c → p i = true ∧ okL p c.cells = true) (h : resultsD P rs τ m = some v) : v.ok p = true := by
  unfold resultsD at h
  split at h
  · rename_i u hu
    cases h
    exact resVals_ok hτ hg hu _ (by simp)
  · rename_i vs _ hvs
    split at h
    · rename_i l hl
      cases h
      exact oneVs_ok hl (resVals_ok hτ hg hvs)
    · cases h
  · cases h
-- a frame's first state
theorem argsTK_eq {β : Type} : ∀ (t : Tr) (i : Nat) (l : List LV) (k : Tr → β), argsTK t i l k = k (argsT t i l)
  | _, _, [], _ => rfl
  | t, i, v :: l, k => by simp only [argsTK, argsT, setTK_eq, argsTK_eq]
theorem getT_argsT : ∀ (l : List LV) (t : Tr) (i : Nat) (j : Nat), i + l.length < 65535 → getT (argsT t i l) j = if i ≤ j ∧ j < i + l.length then l.getD (j - i) undefL else getT t j
  | [], t, i, j, _ => by
    simp only [argsT, List.length_nil]
    rw [if_neg (by omega)]
  | v :: l, t, i, j, h => by
    simp only [List.length_cons] at h ⊢
    simp only [argsT]
    rw [getT_argsT l _ (i + 1) j (by omega), getT_setT 16 t i v j (by omega)]
    by_cases h1 : j = i
    · subst h1
      rw [if_neg (by omega), if_pos rfl, if_pos (by omega)]
      simp
    · by_cases h2 : i ≤ j ∧ j < i + (l.length + 1)
      · rw [if_pos (by omega), if_pos h2]
        rw [show j - i = (j - (i + 1)) + 1 by omega]
        simp
      · rw [if_neg (by omega), if_neg h1, if_neg h2]
end
end Go.Lr

/- The local evaluator is sound: what it tells of a body holds of the model's. -/
namespace Go.Lr
open Go.RowKit
theorem getM_dropM (nb : Nat) : ∀ (m : Mem) (i : Nat), getM (dropM nb m) i = if i < nb then getM m i else none
  | [], i => by simp [dropM, getM]
  | (j, b) :: m, i => by
    simp only [dropM, nblt]
    by_cases hj : j < nb
    · simp only [hj, decide_true]
      rw [getM_cons, getM_cons, getM_dropM nb m i]
      by_cases hi : i = j
      · subst hi; simp [hj]
      · simp [hi]
    · simp only [hj, decide_false]
      rw [getM_cons, getM_dropM nb m i]
      by_cases hi : i < nb
      · rw [if_pos hi, if_pos hi, if_neg (by omega)]
      · rw [if_neg hi, if_neg hi]
theorem uniq_dropM (nb : Nat) : ∀ (m : Mem), uniq m → uniq (dropM nb m)
  | [], _ => trivial
  | (j, b) :: m, h => by
    simp only [dropM]
    split
    · refine ⟨?_, uniq_dropM nb m h.2⟩
      rw [getM_dropM, h.1]
      simp
    · exact uniq_dropM nb m h.2
theorem backM_spec {β : Type} {y : Bool} {nb : Nat} {v : LV} {m : Mem} {k : Mem → β} {r : β} (h : backM y nb v m k = r) : ∃ m', k m' = r ∧ (uniq m → uniq m') ∧ ∀ i b, getM m' i = some b → getM m i = some b := by
  have hm : k m = r → ∃ m', k m' = r ∧ (uniq m → uniq m') ∧ ∀ i b, getM m' i = some b → getM m i = some b := fun h => ⟨m, h, id, fun _ _ h => h⟩
  unfold backM at h
  split at h
  · exact hm h
  · split at h
    · rw [forceL_eq] at h
      refine ⟨_, h, uniq_dropM nb m, fun i b hb => ?_⟩
      rw [getM_dropM] at hb
      split at hb
      · exact hb
      · cases hb
    · exact hm h
theorem Rel.sub {E : Env} {g g' : Nat → Option Blk} {w : World} (h : Rel E g w) (hs : ∀ i b, g' i = some b → g i = some b) : Rel E g' w := by
  have hsome : ∀ i, (g' i).isSome → (g i).isSome := by
    intro i hi
    obtain ⟨b, hb⟩ := Option.isSome_iff_exists.1 hi
    simp [hs i b hb]
  exact ⟨fun i b hb => h.blk i b (hs i b hb), fun i j hi hj he => h.inj i j (hsome i hi) (hsome j hj) he⟩
section
variable {P : Program} {S : FuncId → Option SumK} {z : Md}
def SC (P : Program) (S : FuncId → Option SumK) (z : Md) (n : Nat) : Prop :=
  ∀ (c : Code) (s : St) (out : Out) (s' : St), exec P S z n (.code c) s = some (out, s') → s.sz ≤ 60000 → StOK s →
    ∃ e, out = .ex e ∧ (Good s' → Good s) ∧ StOK s' ∧ s'.sz = s.sz ∧ s.nb ≤ s'.nb ∧
      (Good s' → ∀ (E : Env) (a : Act) (w : World), R E s a w → ∀ Q : Exit → Act → World → Prop, (∀ E' a' w', R E' s' a' w' → Ext w E s w' E' s' → Q e.to a' w') → c.wp P Q a w)
def SL (P : Program) (S : FuncId → Option SumK) (z : Md) (n : Nat) : Prop :=
  ∀ (c : Code) (s : St) (out : Out) (s' : St), exec P S z n (.code (.loop c)) s = some (out, s') → s.sz ≤ 60000 → StOK s →
    ∃ e m, out = .ex e ∧ (Good s' → Good s) ∧ StOK s' ∧ s'.sz = s.sz ∧ s.nb ≤ s'.nb ∧
      (Good s' → ∀ (E : Env) (a : Act) (w : World), R E s a w → ∀ Q : Exit → Act → World → Prop, (∀ E' a' w', R E' s' a' w' → Ext w E s w' E' s' → Q e.to a' w') → Code.rounds P c Q m a w)
def SO (P : Program) (S : FuncId → Option SumK) (z : Md) (n : Nat) : Prop :=
  ∀ (all l : List Oper) (s : St) (out : Out) (s' : St), exec P S z n (.ops all l) s = some (out, s') → s.sz ≤ 60000 → StOK s →
    out = .ex .normal ∧ (Good s' → Good s) ∧ StOK s' ∧ s'.sz = s.sz ∧ s.nb ≤ s'.nb ∧
      (Good s' → ∀ (ops : Array Oper) (k : Nat), ops.toList = all → all.drop k = l → ∀ (E : Env) (a : Act) (w : World), R E s a w → ∀ Q : Exit → Act → World → Prop,
        (∀ E' a' w', R E' s' a' w' → Ext w E s w' E' s' → Q .normal a' w') → wpOps P ops Q (List.range' k l.length) a w)
def SB (P : Program) (S : FuncId → Option SumK) (z : Md) (n : Nat) : Prop :=
  ∀ (f : FuncId) (args : List LV) (s : St) (out : Out) (s' : St), exec P S z n (.body f args) s = some (out, s') → (∀ i b, getM s.mem i = some b → i < s.nb ∧ okL (below s.nb) b.cells = true) → uniq s.mem →
    (∀ v ∈ args, v.ok (below s.nb) = true) →
    ∃ v, out = .val v ∧ (Good s' → Good s) ∧ s.nb ≤ s'.nb ∧ (∀ i b, getM s'.mem i = some b → i < s'.nb ∧ okL (below s'.nb) b.cells = true) ∧ uniq s'.mem ∧ v.ok (below s'.nb) = true ∧
      (∃ fn, P.funcs[f]? = some fn ∧ fn.body.isSome) ∧
      (Good s' → ∀ (E : Env) (w : World), MRel E s w → Calls P f (args.map (LV.den E)).toArray w fun e w' => ∃ E', e = .returned (v.den E') ∧ MRel E' s' w' ∧ Ext w E s w' E' s')
theorem below_mono {n m : Nat} (h : n ≤ m) : ∀ i, below n i = true → below m i = true := fun i hi => by
  simp only [below, decide_eq_true_eq] at hi ⊢
  omega
theorem body_same {n : Nat} {f : FuncId} {args : List LV} {s s2 : St} {out : Out} (h : exec P S z n (.body f args) s = some (out, s2)) : s2.sz = s.sz ∧ s2.tm = s.tm := by
  cases n with
  | zero => simp [exec] at h
  | succ n =>
    simp only [exec, step1, bodyStep] at h
    split at h
    · split at h
      · split at h
        · rw [argsTK_eq] at h
          unfold endStep at h
          split at h
          · split at h
            · cases h; exact ⟨rfl, rfl⟩
            · cases h
          · split at h
            · cases h; exact ⟨rfl, rfl⟩
            · cases h
          · cases h
        · cases h
      · cases h
    · cases h
theorem app_step (hB : BinOK P) (hS : AllOK P S) {all : List Oper} {s : St} {o : Oper} {gd pd : Option Bool} {d : Dl} {cs : List (Bool × Bool)} {dec : List (Option Bool)} {β : Type} {k : St → Option β} {r : β}
    (hd : stepD P S z all (getT s.tm) (getM s.mem) s.nb gd pd o = some (d, cs)) (h : appK z s o.dst d dec cs k = some r) (hsz : s.sz ≤ 60000) (hs : StOK s) :
    ∃ s1, k s1 = some r ∧ s1.sz = s.sz ∧ s.nb ≤ s1.nb ∧ StOK s1 ∧ (Good s1 → Good s) ∧
      (Good s1 → ∀ (ops : Array Oper) (i : Nat), ops.toList = all → ops[i]? = some o → ∀ (E : Env) (a : Act) (w : World), R E s a w → ∀ (K : Act → World → Prop) (Q : Exit → Act → World → Prop),
        (∀ E' a' w', R E' s1 a' w' → Ext w E s w' E' s1 → K a' w') → wpOp P ops Q i K a w) := by
  obtain ⟨s1, h1, h2, h3, h4, h5, h6, h7, _⟩ := appK_spec (a := { tmps := Array.replicate s.sz undef, defers := [] }) (by simp) hsz h
  have hok := stepD_ok (fun t => hs.okT t) hs.okM' hd
  have hs1 : StOK s1 := hs.app hok h5 h6 h7.1
  refine ⟨s1, h1, h4, by omega, hs1, fun hg => (h2 hg).2.2, fun hg ops i hall hi E a w hr K Q hk => ?_⟩
  subst hall
  obtain ⟨c1, c2, _⟩ := h2 hg
  refine stepD_wp hB hS hi hr.tm (fun t => hs.okT t) hr.m.rel hs.okM' (fun j h1 _ => by simp [below, h1]) hd c1 c2 fun E' w' hp => ?_
  have hag : ∀ i, below s.nb i = true → E' i = E i := fun j hj => hp.agree j (.inl (by simpa [below] using hj))
  obtain ⟨tm1, sz1, mem1, nb1, dec1, cs1⟩ := s1
  simp only at h4 h5 h6
  subst h5 h6
  obtain ⟨m1, m2⟩ := MRel.post (tm := tm1) (sz := sz1) (dec := dec1) (cs := cs1) hr.m hok hp
  refine hk E' _ w' ⟨?_, by rw [h4]; exact hsz, fun t => ?_, ?_, hs1.okT, m1⟩ m2
  · rw [h4, ← hr.size]
    cases hd : o.dst <;> simp [Act.put]
  · have ht : ∀ t : Nat, a.tmps.getD t undef = (getT s.tm t).den E' := fun t => by rw [hr.tm t, LV.den_congr hag (hs.okT t)]
    have h8 : getT tm1 t = updτ (getT s.tm) o.dst d.val t := congrFun h7.1 t
    show _ = (getT tm1 t).den E'
    rw [h8]
    unfold updτ
    cases hd : o.dst with
    | none => exact ht t
    | some e =>
      simp only [Act.put]
      rw [getD_set a.tmps e t _ (by rw [hr.size]; exact h7.2 e hd)]
      by_cases hte : t = e
      · simp [hte]
      · rw [if_neg hte, if_neg hte]; exact ht t
  · cases hd : o.dst <;> exact hr.defers
theorem SO_succ (hB : BinOK P) (hS : AllOK P S) (hNG : ∀ (f : FuncId) (fn : Func), P.funcs[f]? = some fn → fn.name ≠ "runtime.NumGoroutine") {n : Nat} (ihO : SO P S z n) (ihB : SB P S z n) : SO P S z (n + 1) := by
  intro all l s out s' h hsz hs
  simp only [exec, step1] at h
  cases l with
  | nil =>
    simp only [opsStep] at h
    cases h
    exact ⟨rfl, id, hs, rfl, Nat.le_refl _, fun _ ops k _ _ E a w hr Q hQ => by simpa [wpOps] using hQ E a w hr (.refl _ _ _)⟩
  | cons o rest =>
    simp only [opsStep] at h
    generalize hdec : decs z o s.dec = q at h
    obtain ⟨gd, pd, dec⟩ := q
    simp only at h
    have hnext : ∀ (ops : Array Oper) (k : Nat), ops.toList = all → all.drop k = o :: rest → ops[k]? = some o ∧ all.drop (k + 1) = rest := by
      intro ops k hall hdrop
      constructor
      · have : (all.drop k)[0]? = some o := by rw [hdrop]; rfl
        rw [List.getElem?_drop] at this
        rw [← hall] at this
        simpa using this
      · have := congrArg List.tail hdrop
        simpa [List.tail_drop] using this
    -- the step that the evaluator takes by itself
    have plain : ∀ (d : Dl) (cs : List (Bool × Bool)), stepD P S z all (getT s.tm) (getM s.mem) s.nb gd pd o = some (d, cs) → (appK z s o.dst d dec cs fun s' => exec P S z n (.ops all rest) s') = some (out, s') →
        out = .ex .normal ∧ (Good s' → Good s) ∧ StOK s' ∧ s'.sz = s.sz ∧ s.nb ≤ s'.nb ∧
          (Good s' → ∀ (ops : Array Oper) (k : Nat), ops.toList = all → all.drop k = o :: rest → ∀ (E : Env) (a : Act) (w : World), R E s a w → ∀ Q : Exit → Act → World → Prop,
            (∀ E' a' w', R E' s' a' w' → Ext w E s w' E' s' → Q .normal a' w') → wpOps P ops Q (List.range' k (o :: rest).length) a w) := by
      intro d cs hd hk
      obtain ⟨s1, h1, h2, h3, h4, h5, h6⟩ := app_step (z := z) hB hS hd hk hsz hs
      obtain ⟨e1, e2, e3, e4, e5, e6⟩ := ihO all rest s1 out s' h1 (by omega) h4
      refine ⟨e1, fun hg => h5 (e2 hg), e3, e4.trans h2, Nat.le_trans h3 e5, fun hg ops k hall hdrop E a w hr Q hQ => ?_⟩
      rw [List.length_cons, List.range'_succ, wpOps_cons]
      obtain ⟨hk', hdrop'⟩ := hnext ops k hall hdrop
      refine h6 (e2 hg) ops k hall hk' E a w hr _ Q fun E' a' w' hr' hx => ?_
      exact e6 hg ops (k + 1) hall hdrop' E' a' w' hr' Q fun E'' a'' w'' hr'' hx' => hQ E'' a'' w'' hr'' (hx.trans hx')
    split at h
    · rename_i cs hw
      exact plain skipD cs (by unfold stepD; rw [hw]) h
    · rename_i cs hw
      unfold doStep at h
      split at h
      · rename_i f args hinl
        -- a call that is walked into
        have hc : ∃ c, o.op = .call c ∧ callee (getT s.tm) c = some (f, args) := by
          unfold inlined at hinl
          split at hinl
          · rename_i c ho
            refine ⟨c, ho, ?_⟩
            split at hinl
            · rename_i f' args' hcal
              split at hinl
              · cases hinl
              · cases hinl; exact hcal
            · cases hinl
          · cases hinl
        obtain ⟨c, ho, hcal⟩ := hc
        obtain ⟨c1, h1, h2⟩ := csK_spec h
        unfold inlStep at h1
        split at h1
        · rename_i v s2 hbody
          rw [forceV_eq] at h1
          have hargs : ∀ u ∈ args, u.ok (below s.nb) = true := callee_ok (fun t => hs.okT t) hcal
          obtain ⟨hsz2, htm2⟩ := body_same hbody
          simp only at hsz2 htm2
          obtain ⟨tm, h3, ⟨htm, hdst⟩, _⟩ := put_tm (a := { tmps := Array.replicate s2.sz undef, defers := [] }) (by simp) (by omega) h1
          obtain ⟨m', h4, hum, hsub⟩ := backM_spec h3
          obtain ⟨v', b1, b2, b3, b4, b5, b6, ⟨fn, b7, b8⟩, b9⟩ := ihB f args _ _ s2 hbody hs.okM hs.uq hargs
          cases b1
          simp only at b3
          have hs3 : StOK ⟨tm, s2.sz, m', s2.nb, s2.dec, s2.cs, s2.lg⟩ := by
            refine ⟨fun t => ?_, fun i b hb => b4 i b (hsub i b hb), hum b5⟩
            show (getT tm t).ok (below s2.nb) = true
            rw [htm]
            unfold updτ
            rw [htm2]
            cases hd : o.dst with
            | none => exact LV.ok_mono (below_mono b3) (hs.okT t)
            | some e =>
              by_cases hte : t = e
              · simp only [hte, if_true]; exact b6
              · simp only [hte, if_false]; exact LV.ok_mono (below_mono b3) (hs.okT t)
          obtain ⟨e1, e2, e3, e4, e5, e6⟩ := ihO all rest _ out s' h4 (by show s2.sz ≤ 60000; omega) hs3
          simp only at e4 e5
          refine ⟨e1, fun hg => ?_, e3, e4.trans hsz2, Nat.le_trans b3 e5, fun hg ops k hall hdrop E a w hr Q hQ => ?_⟩
          · exact (h2 (b2 (e2 hg))).2
          · rw [List.length_cons, List.range'_succ, wpOps_cons]
            obtain ⟨hk', hdrop'⟩ := hnext ops k hall hdrop
            have hg2 : Good s2 := e2 hg
            have hcs := (h2 (b2 hg2)).1
            unfold wpOp
            simp only [hk']
            subst hall
            rw [wants_spec (a := a) (E := E) hr.tm hw hcs]
            simp only [if_true]
            refine .inl (CallOK.wp (R := fun v'' w' => ∃ E', v'' = v.den E' ∧ MRel E' s2 w' ∧ Ext w E ⟨s.tm, s.sz, s.mem, s.nb, dec, c1, s.lg⟩ w' E' s2) ho (eval_tmp hr.tm) hcal (.inl ⟨fn, b7, hNG f fn b7, b8, ?_⟩) ?_)
            · refine (b9 hg2 E w ⟨hr.m.rel, hr.m.okM, hr.m.uq⟩).mono fun e w' he => ?_
              obtain ⟨E', h5, h6, h7⟩ := he
              exact ⟨_, h5, E', rfl, h6, h7⟩
            · rintro v'' w' ⟨E', rfl, h6, h7⟩
              have hag : ∀ i, below s.nb i = true → E' i = E i := fun j hj => h7.agree j (by simpa [below] using hj)
              have ht : ∀ t : Nat, a.tmps.getD t undef = (getT s.tm t).den E' := fun t => by rw [hr.tm t, LV.den_congr hag (hs.okT t)]
              have hr3 : R E' ⟨tm, s2.sz, m', s2.nb, s2.dec, s2.cs, s2.lg⟩ (a.put o.dst (v.den E')) w' := by
                refine ⟨?_, by show s2.sz ≤ 60000; omega, fun t => ?_, ?_, hs3.okT, ⟨h6.rel.sub hsub, hs3.okM, hs3.uq⟩⟩
                · show _ = s2.sz
                  rw [hsz2, ← hr.size]
                  cases hd : o.dst <;> simp [Act.put]
                · show _ = (getT tm t).den E'
                  rw [htm]
                  unfold updτ
                  rw [htm2]
                  cases hd : o.dst with
                  | none => exact ht t
                  | some e =>
                    simp only [Act.put]
                    rw [getD_set a.tmps e t _ (by rw [hr.size, ← hsz2]; exact hdst e hd)]
                    by_cases hte : t = e
                    · simp [hte]
                    · rw [if_neg hte, if_neg hte]; exact ht t
                · cases hd : o.dst <;> exact hr.defers
              refine e6 hg ops (k + 1) rfl hdrop' E' _ w' hr3 Q fun E'' a'' w'' hr'' hx' => ?_
              refine hQ E'' a'' w'' hr'' (Ext.trans (s1 := ⟨tm, s2.sz, m', s2.nb, s2.dec, s2.cs, s2.lg⟩) ⟨h7.nb, h7.agree, h7.os, h7.tape, h7.output, h7.size, h7.frame, fun i hi => h7.src i ?_⟩ hx')
              obtain ⟨b, hb⟩ := Option.isSome_iff_exists.1 hi
              simp [hsub i b hb]
        · cases h1
      · rename_i hinl
        split at h
        · rename_i d hd
          exact plain d cs (by unfold stepD; rw [hw]; simp only [hd]) h
        · cases h
    · cases h
theorem SB_succ {n : Nat} (ihC : SC P S z n) : SB P S z (n + 1) := by
  intro f args s out s' h hokM huq hargs
  simp only [exec, step1, bodyStep] at h
  split at h
  · rename_i fn hf
    split at h
    · rename_i c hc
      split at h
      · rename_i hl1 hl2
        rw [nble, lenL_eq] at hl1
        rw [nble] at hl2
        have hl1' : args.length ≤ fn.ntmps := by simpa using hl1
        have hl2' : fn.ntmps ≤ 60000 := by simpa using hl2
        rw [argsTK_eq] at h
        have hget : ∀ j, getT (argsT .nil 0 args) j = args.getD j undefL := by
          intro j
          rw [getT_argsT args .nil 0 j (by omega)]
          by_cases hj : j < args.length
          · rw [if_pos (by omega)]; simp
          · rw [if_neg (by omega), getT_nil]
            simp [List.getD, List.getElem?_eq_none (Nat.le_of_not_lt hj)]
        have hs0 : StOK ⟨argsT .nil 0 args, fn.ntmps, s.mem, s.nb, s.dec, s.cs, s.lg⟩ := by
          refine ⟨fun t => ?_, hokM, huq⟩
          show (getT (argsT .nil 0 args) t).ok (below s.nb) = true
          rw [hget]
          by_cases ht : t < args.length
          · simp only [List.getD, List.getElem?_eq_getElem ht, Option.getD_some]
            exact hargs _ (List.getElem_mem ht)
          · simp only [List.getD, List.getElem?_eq_none (Nat.le_of_not_lt ht), Option.getD_none]
            rfl
        -- what is common to both ways of ending
        have key : ∀ (e : Ex) (s1 : St) (v : LV), (e = .normal ∨ e = .ret) → exec P S z n (.code c) ⟨argsT .nil 0 args, fn.ntmps, s.mem, s.nb, s.dec, s.cs, s.lg⟩ = some (.ex e, s1) →
            resultsD P fn.results.toList (getT s1.tm) s1.mem = some v → out = .val v → s' = ⟨s.tm, s.sz, s1.mem, s1.nb, s1.dec, s1.cs, s1.lg⟩ →
            ∃ v, out = .val v ∧ (Good s' → Good s) ∧ s.nb ≤ s'.nb ∧ (∀ i b, getM s'.mem i = some b → i < s'.nb ∧ okL (below s'.nb) b.cells = true) ∧ uniq s'.mem ∧ v.ok (below s'.nb) = true ∧
              (∃ fn, P.funcs[f]? = some fn ∧ fn.body.isSome) ∧
              (Good s' → ∀ (E : Env) (w : World), MRel E s w → Calls P f (args.map (LV.den E)).toArray w fun e w' => ∃ E', e = .returned (v.den E') ∧ MRel E' s' w' ∧ Ext w E s w' E' s') := by
          intro e s1 v he hex hres hout hs'
          obtain ⟨e', q1, q2, q3, q4, q5, q6⟩ := ihC c _ _ s1 hex hl2' hs0
          cases q1
          subst hs'
          simp only at q5
          refine ⟨v, hout, fun hg => q2 hg, q5, q3.okM, q3.uq, resultsD_ok (fun t => q3.okT t) q3.okM' hres, ⟨fn, hf, by simp [hc]⟩, fun hg E w hm => ?_⟩
          refine calls_of_wp hf hc (q6 hg E _ w ⟨?_, hl2', fun t => ?_, rfl, hs0.okT, ⟨hm.rel, hm.okM, hm.uq⟩⟩ _ fun E' a' w' hr' hx' => ?_)
          · simp; omega
          · show _ = (getT (argsT .nil 0 args) t).den E
            rw [hget]
            simp only [Array.getD_eq_getD_getElem?, Array.getElem?_append, List.size_toArray, List.length_map]
            by_cases ht : t < args.length
            · rw [if_pos ht]
              simp [List.getD, List.getElem?_eq_getElem ht]
            · rw [if_neg ht]
              simp only [List.getD, List.getElem?_eq_none (Nat.le_of_not_lt ht), Option.getD_none]
              by_cases ht2 : t - args.length < fn.ntmps - args.length
              · simp [ht2]; rfl
              · simp [ht2]; rfl
          · have hpost : bodyPost P fn (fun e w' => ∃ E', e = .returned (v.den E') ∧ MRel E' ⟨s.tm, s.sz, s1.mem, s1.nb, s1.dec, s1.cs, s1.lg⟩ w' ∧ Ext w E s w' E' ⟨s.tm, s.sz, s1.mem, s1.nb, s1.dec, s1.cs, s1.lg⟩) .ret a' w' :=
              ⟨hr'.defers, v.den E', resultsD_spec hr'.m.rel hr'.tm hres, E', rfl, ⟨hr'.m.rel, hr'.m.okM, hr'.m.uq⟩, ⟨hx'.nb, hx'.agree, hx'.os, hx'.tape, hx'.output, hx'.size, hx'.frame, hx'.src⟩⟩
            rcases he with rfl | rfl
            · exact hpost
            · exact hpost
        unfold endStep at h
        split at h
        · rename_i s1 hex
          split at h
          · rename_i v hres
            cases h
            exact key .normal s1 v (.inl rfl) hex hres rfl rfl
          · cases h
        · rename_i s1 hex
          split at h
          · rename_i v hres
            cases h
            exact key .ret s1 v (.inr rfl) hex hres rfl rfl
          · cases h
        · cases h
      · cases h
    · cases h
  · cases h
theorem SC_succ (hB : BinOK P) (hS : AllOK P S) (hmix : P.follows .mixedOrders = true) {n : Nat} (ihC : SC P S z n) (ihO : SO P S z n) (ihL : SL P S z (n + 1)) : SC P S z (n + 1) := by
  intro c s out s' h hsz hs
  have h0 := h
  simp only [exec, step1] at h
  cases c <;> simp only [codeStep, reduceCtorEq] at h
  case skip =>
    cases h
    exact ⟨.normal, rfl, id, hs, rfl, Nat.le_refl _, fun _ E a w hr Q hQ => wp_skip (hQ E a w hr (.refl _ _ _))⟩
  case region id ops draw =>
    cases draw with
    | false =>
      simp only at h
      obtain ⟨e1, e2, e3, e4, e5, e6⟩ := ihO _ _ s out s' h hsz hs
      refine ⟨.normal, e1, e2, e3, e4, e5, fun hg E a w hr Q hQ => wp_region ?_⟩
      have := e6 hg ops 0 rfl rfl E a w hr Q hQ
      rw [List.range_eq_range']
      simpa using this
    | true =>
      simp only at h
      unfold drawStep at h
      split at h
      · rename_i s1 hd
        cases h
        obtain ⟨e2, e3, e4, e5, e6⟩ := drawRun_wp hB hS hmix hd hsz hs
        exact ⟨.normal, rfl, e2, e3, e4, e5, fun hg E a w hr Q hQ => e6 hg id E a w hr Q hQ⟩
      · cases h
  case seq x y =>
    cases hx : exec P S z n (.code x) s with
    | none => rw [hx] at h; simp [seqStep] at h
    | some q =>
      obtain ⟨o1, s1⟩ := q
      rw [hx] at h
      obtain ⟨e, e1, e2, e3, e4, e5, e6⟩ := ihC x s o1 s1 hx hsz hs
      subst e1
      have other : e ≠ .normal → seqStep (exec P S z n) y (some (Out.ex e, s1)) = some (Out.ex e, s1) := by
        intro hne
        cases e <;> first | exact absurd rfl hne | rfl
      by_cases hne : e = .normal
      · subst hne
        simp only [seqStep] at h
        obtain ⟨e', f1, f2, f3, f4, f5, f6⟩ := ihC y s1 out s' h (by omega) e3
        refine ⟨e', f1, fun hg => e2 (f2 hg), f3, f4.trans e4, Nat.le_trans e5 f5, fun hg E a w hr Q hQ => wp_seq ?_⟩
        refine e6 (f2 hg) E a w hr _ fun E' a' w' hr' hx' => ?_
        exact f6 hg E' a' w' hr' Q fun E'' a'' w'' hr'' hx'' => hQ E'' a'' w'' hr'' (hx'.trans hx'')
      · rw [other hne] at h
        cases h
        refine ⟨e, rfl, e2, e3, e4, e5, fun hg E a w hr Q hQ => wp_seq ?_⟩
        refine e6 hg E a w hr _ fun E' a' w' hr' hx' => ?_
        have := hQ E' a' w' hr' hx'
        cases e <;> first | exact absurd rfl hne | exact this
  case cond c x y =>
    unfold condStep at h
    split at h
    · rename_i t ht
      generalize hq : takeD s.dec = q at h
      obtain ⟨d, dec⟩ := q
      simp only at h
      split at h
      · rename_i cs hb
        obtain ⟨c1, h1, h2⟩ := csK_spec h
        have hs1 : StOK ⟨s.tm, s.sz, s.mem, s.nb, dec, c1, s.lg⟩ := ⟨hs.okT, hs.okM, hs.uq⟩
        obtain ⟨e, e1, e2, e3, e4, e5, e6⟩ := ihC x _ out s' h1 hsz hs1
        refine ⟨e, e1, fun hg => (h2 (e2 hg)).2, e3, e4, e5, fun hg E a w hr Q hQ => ?_⟩
        have htt := isTrue_spec hb (h2 (e2 hg)).1
        subst htt
        refine wp_cond_true (by rw [ev_spec (eval_tmp hr.tm) ht]; rfl) ?_
        exact e6 hg E a w ⟨hr.size, hr.le, hr.tm, hr.defers, hr.okT, ⟨hr.m.rel, hr.m.okM, hr.m.uq⟩⟩ Q fun E' a' w' hr' hx' => hQ E' a' w' hr' ⟨hx'.nb, hx'.agree, hx'.os, hx'.tape, hx'.output, hx'.size, hx'.frame, hx'.src⟩
      · rename_i cs hb
        obtain ⟨c1, h1, h2⟩ := csK_spec h
        have hs1 : StOK ⟨s.tm, s.sz, s.mem, s.nb, dec, c1, s.lg⟩ := ⟨hs.okT, hs.okM, hs.uq⟩
        obtain ⟨e, e1, e2, e3, e4, e5, e6⟩ := ihC y _ out s' h1 hsz hs1
        refine ⟨e, e1, fun hg => (h2 (e2 hg)).2, e3, e4, e5, fun hg E a w hr Q hQ => ?_⟩
        have htt := isTrue_spec hb (h2 (e2 hg)).1
        subst htt
        refine wp_cond_false (by rw [ev_spec (eval_tmp hr.tm) ht]; rfl) ?_
        exact e6 hg E a w ⟨hr.size, hr.le, hr.tm, hr.defers, hr.okT, ⟨hr.m.rel, hr.m.okM, hr.m.uq⟩⟩ Q fun E' a' w' hr' hx' => hQ E' a' w' hr' ⟨hx'.nb, hx'.agree, hx'.os, hx'.tape, hx'.output, hx'.size, hx'.frame, hx'.src⟩
      · cases h
    · cases h
  case block id x =>
    cases hx : exec P S z n (.code x) s with
    | none => rw [hx] at h; simp [blockStep] at h
    | some q =>
      obtain ⟨o1, s1⟩ := q
      rw [hx] at h
      obtain ⟨e, e1, e2, e3, e4, e5, e6⟩ := ihC x s o1 s1 hx hsz hs
      subst e1
      cases e with
      | normal =>
        simp only [blockStep] at h
        cases h
        exact ⟨.normal, rfl, e2, e3, e4, e5, fun hg E a w hr Q hQ => wp_block (e6 hg E a w hr _ fun E' a' w' hr' hx' => hQ E' a' w' hr' hx')⟩
      | ret =>
        simp only [blockStep] at h
        cases h
        exact ⟨.ret, rfl, e2, e3, e4, e5, fun hg E a w hr Q hQ => wp_block (e6 hg E a w hr _ fun E' a' w' hr' hx' => hQ E' a' w' hr' hx')⟩
      | exit i =>
        simp only [blockStep, nbeq] at h
        by_cases hid : i = id
        · simp only [hid, decide_true] at h
          cases h
          refine ⟨.normal, rfl, e2, e3, e4, e5, fun hg E a w hr Q hQ => wp_block (e6 hg E a w hr _ fun E' a' w' hr' hx' => ?_)⟩
          simp only [Ex.to, Exit.inBlock, hid, if_true]
          exact hQ E' a' w' hr' hx'
        · simp only [hid, decide_false] at h
          cases h
          refine ⟨.exit i, rfl, e2, e3, e4, e5, fun hg E a w hr Q hQ => wp_block (e6 hg E a w hr _ fun E' a' w' hr' hx' => ?_)⟩
          simp only [Ex.to, Exit.inBlock, hid, if_false]
          exact hQ E' a' w' hr' hx'
  case loop x =>
    obtain ⟨e, m, e1, e2, e3, e4, e5, e6⟩ := ihL x s out s' h0 hsz hs
    exact ⟨e, e1, e2, e3, e4, e5, fun hg E a w hr Q hQ => wp_loop_rounds m (e6 hg E a w hr Q hQ)⟩
  case exit id =>
    cases h
    exact ⟨.exit id, rfl, fun hg => hg, hs, rfl, Nat.le_refl _, fun _ E a w hr Q hQ => wp_exit (hQ E a w hr (.refl _ _ _))⟩
  case ret =>
    cases h
    exact ⟨.ret, rfl, id, hs, rfl, Nat.le_refl _, fun _ E a w hr Q hQ => wp_ret (hQ E a w hr (.refl _ _ _))⟩
theorem SL_succ {n : Nat} (ihC : SC P S z n) (ihL : SL P S z n) : SL P S z (n + 1) := by
  intro x s out s' h hsz hs
  simp only [exec, step1, codeStep] at h
  cases hx : exec P S z n (.code x) s with
  | none => rw [hx] at h; simp [seqStep] at h
  | some q =>
    obtain ⟨o1, s1⟩ := q
    rw [hx] at h
    obtain ⟨e, e1, e2, e3, e4, e5, e6⟩ := ihC x s o1 s1 hx hsz hs
    subst e1
    by_cases hne : e = .normal
    · subst hne
      simp only [seqStep] at h
      obtain ⟨e', m, f1, f2, f3, f4, f5, f6⟩ := ihL x s1 out s' h (by omega) e3
      refine ⟨e', m + 1, f1, fun hg => e2 (f2 hg), f3, f4.trans e4, Nat.le_trans e5 f5, fun hg E a w hr Q hQ => ?_⟩
      rw [rounds_succ]
      refine e6 (f2 hg) E a w hr _ fun E' a' w' hr' hx' => ?_
      exact f6 hg E' a' w' hr' Q fun E'' a'' w'' hr'' hx'' => hQ E'' a'' w'' hr'' (hx'.trans hx'')
    · have other : seqStep (exec P S z n) (.loop x) (some (Out.ex e, s1)) = some (Out.ex e, s1) := by
        cases e <;> first | exact absurd rfl hne | rfl
      rw [other] at h
      cases h
      refine ⟨e, 1, rfl, e2, e3, e4, e5, fun hg E a w hr Q hQ => ?_⟩
      rw [rounds_succ]
      refine e6 hg E a w hr _ fun E' a' w' hr' hx' => ?_
      have := hQ E' a' w' hr' hx'
      cases e <;> first | exact absurd rfl hne | exact this
theorem exec_sound (hB : BinOK P) (hS : AllOK P S) (hmix : P.follows .mixedOrders = true) (hNG : ∀ (f : FuncId) (fn : Func), P.funcs[f]? = some fn → fn.name ≠ "runtime.NumGoroutine") :
    ∀ n, SC P S z n ∧ SL P S z n ∧ SO P S z n ∧ SB P S z n
  | 0 => ⟨fun c s out s' h => by simp [exec] at h, fun c s out s' h => by simp [exec] at h, fun all l s out s' h => by simp [exec] at h, fun f args s out s' h => by simp [exec] at h⟩
  | n + 1 => by
    obtain ⟨h1, h2, h3, h4⟩ := exec_sound hB hS hmix hNG n
    have hL := SL_succ h1 h2
    exact ⟨SC_succ hB hS hmix h1 h3 hL, hL, SO_succ hB hS hNG h3 h4, SB_succ h1⟩
end
end Go.Lr

/- The local evaluator: the comparing of structs and arrays. -/
namespace Go.Lr
open Go.RowKit
section
variable {P : Program} {E : Env}
theorem forIn_all {α : Type} (f : α → Option Bool × Unit → Sem (ForInStep (Option Bool × Unit))) (b : α → Bool) (w : World) : ∀ (l : List α),
    (∀ x ∈ l, (f x (none, ())).run P w = .ok (if b x then .yield (none, ()) else .done (some false, ())) w) →
    (forIn l (none, ()) f).run P w = .ok (if l.all b then (none, ()) else (some false, ())) w
  | [], _ => by simp
  | x :: l, h => by
    simp only [List.forIn_cons, Sem.run_bind, h x (by simp), Result.andThen_ok]
    cases hb : b x with
    | false => simp [hb]
    | true =>
      simp only [if_true, List.all_cons, hb, Bool.true_and]
      exact forIn_all f b w l fun y hy => h y (by simp [hy])
def eqF (P : Program) (d : Nat) (xs ys : List At) (f : Field) : Bool :=
  match partV P f.type xs f.offset, partV P f.type ys f.offset with
  | some a, some b => (eqV P d f.type a b).getD false
  | _, _ => false
theorem eqFields_spec {d : Nat} {xs ys : List At} : ∀ {fs : List Field} {r : Bool}, eqFields P (eqV P d) fs xs ys = some r →
    r = fs.all (eqF P d xs ys) ∧ ∀ f ∈ fs, f.name ≠ "_" ∧ ∃ a b, partV P f.type xs f.offset = some a ∧ partV P f.type ys f.offset = some b ∧ eqV P d f.type a b = some (eqF P d xs ys f)
  | [], r, h => by simp only [eqFields] at h; cases h; simp
  | f :: fs, r, h => by
    simp only [eqFields] at h
    split at h
    · cases h
    · rename_i hn
      split at h
      · rename_i a b ha hb
        split at h
        · rename_i r1 rs h1 h2
          cases h
          obtain ⟨g1, g2⟩ := eqFields_spec h2
          have he : eqF P d xs ys f = r1 := by simp [eqF, ha, hb, h1]
          refine ⟨by simp [he, g1], fun f' hf' => ?_⟩
          rcases List.mem_cons.1 hf' with rfl | hf'
          · exact ⟨by simpa using hn, a, b, ha, hb, by rw [he]; exact h1⟩
          · exact g2 f' hf'
        · cases h
      · cases h
def eqE (P : Program) (d : Nat) (e : TypeId) (s : Nat) (xs ys : List At) (i : Nat) : Bool :=
  match partV P e xs (i * s), partV P e ys (i * s) with
  | some a, some b => (eqV P d e a b).getD false
  | _, _ => false
theorem eqElems_spec {d s : Nat} {e : TypeId} {xs ys : List At} : ∀ {n i : Nat} {r : Bool}, eqElems P (eqV P d) e s n i xs ys = some r →
    r = (List.range' i n).all (eqE P d e s xs ys) ∧ ∀ j ∈ List.range' i n, ∃ a b, partV P e xs (j * s) = some a ∧ partV P e ys (j * s) = some b ∧ eqV P d e a b = some (eqE P d e s xs ys j)
  | 0, i, r, h => by simp only [eqElems] at h; cases h; simp
  | n + 1, i, r, h => by
    simp only [eqElems] at h
    split at h
    · rename_i a b ha hb
      split at h
      · rename_i r1 rs h1 h2
        cases h
        obtain ⟨g1, g2⟩ := eqElems_spec h2
        have he : eqE P d e s xs ys i = r1 := by simp [eqE, ha, hb, h1]
        rw [List.range'_succ]
        refine ⟨by simp [he, g1], fun j hj => ?_⟩
        rcases List.mem_cons.1 hj with rfl | hj
        · exact ⟨a, b, ha, hb, by rw [he]; exact h1⟩
        · exact g2 j hj
      · cases h
    · cases h
theorem eqV_spec (w : World) : ∀ {d : Nat} {t : TypeId} {x y : V1} {b : Bool}, eqV P d t x y = some b → (Op.equalIn d t (x.den E) (y.den E)).run P w = .ok b w
  | 0, t, x, y, b, h => by simp [eqV] at h
  | d + 1, t, x, y, b, h => by
    unfold eqV at h
    unfold Op.equalIn
    split at h
    · rename_i p q hu
      cases h
      simp [run_underlying hu, V1.den, At.den]
    · rename_i k' k p k'' q hu
      split at h
      · rename_i hk
        cases h
        have := kindEq_iff hk
        subst this
        simp [run_underlying hu, V1.den, At.den]
      · cases h
    · rename_i fs xs ys hu
      split at h
      · cases h
      · rename_i hst
        obtain ⟨g1, g2⟩ := eqFields_spec h
        simp only [Sem.run_bind, run_underlying hu, Result.andThen_ok, V1.den]
        have hprog : (program : Sem Program).run P w = .ok P w := rfl
        simp only [hprog, Result.andThen_ok, hst, Bool.false_eq_true, if_false, Sem.run_bind]
        rw [← Array.forIn_toList, forIn_all _ (eqF P d xs ys) w fs.toList (fun f hf => by
          obtain ⟨hn, a, b', ha, hb, hab⟩ := g2 f hf
          have h1 := partV_spec (E := E) ha w
          have h2 := partV_spec (E := E) hb w
          have h3 := eqV_spec w hab
          simp only [ne_eq, hn, not_false_eq_true, if_true, Sem.run_bind, h1, Result.andThen_ok, h2, h3]
          cases eqF P d xs ys f <;> simp)]
        rw [g1]
        cases fs.toList.all (eqF P d xs ys) <;> simp
    · rename_i n e xs ys hu
      split at h
      · rename_i s hs
        obtain ⟨g1, g2⟩ := eqElems_spec h
        simp only [Sem.run_bind, run_underlying hu, Result.andThen_ok, V1.den, sizeT_spec hs]
        rw [Std.Legacy.Range.forIn_eq_forIn_range', forIn_all _ (eqE P d e s xs ys) w _ (fun j hj => by
          obtain ⟨a, b', ha, hb, hab⟩ := g2 j (by simpa [Std.Legacy.Range.size] using hj)
          have h1 := partV_spec (E := E) ha w
          have h2 := partV_spec (E := E) hb w
          have h3 := eqV_spec w hab
          simp only [Sem.run_bind, h1, Result.andThen_ok, h2, h3]
          cases eqE P d e s xs ys j <;> simp)]
        rw [g1]
        simp only [Std.Legacy.Range.size, Nat.sub_zero, Nat.add_one_sub_one, Nat.div_one, Result.andThen_ok]
        cases (List.range' 0 n).all (eqE P d e s xs ys) <;> simp
      · cases h
    · rename_i hu
      cases h
      simp [run_underlying hu, V1.den, At.den]
    · rename_i hu
      cases h
      simp [run_underlying hu, V1.den, At.den]
    · rename_i hu
      cases h
      simp [run_underlying hu, V1.den, At.den]
    · rename_i hu
      cases h
      simp [run_underlying hu, V1.den, At.den]
    · rename_i hu
      cases h
      simp [run_underlying hu, V1.den, At.den]
    · rename_i hu
      cases h
      simp [run_underlying hu, V1.den, At.den]
    · rename_i hu
      cases h
      simp [run_underlying hu, V1.den, At.den]
    · cases h
theorem intOf?_spec {x : LV} {k : IntKind} {n : Int} (h : intOf? x = some (k, n)) : x = .v (.one (.int k n)) := by
  unfold intOf? at h
  split at h
  · cases h; rfl
  · cases h
theorem eqV_shape {d : Nat} {t : TypeId} {x y : V1} {b : Bool} (h : eqV P d t x y = some b) :
    (∃ p q, x = .one (.bool p) ∧ y = .one (.bool q)) ∨ (∃ k p l q, x = .one (.int k p) ∧ y = .one (.int l q)) ∨ (∃ p q, x = .agg p ∧ y = .agg q) ∨ (∀ E, (∃ p q, x.den E = .pointer p ∧ y.den E = .pointer q) ∨ ∃ p n c q m d, x.den E = .slice p n c ∧ y.den E = .slice q m d) := by
  cases d with
  | zero => simp [eqV] at h
  | succ d =>
    unfold eqV at h
    split at h
    · exact .inl ⟨_, _, rfl, rfl⟩
    · exact .inr (.inl ⟨_, _, _, _, rfl, rfl⟩)
    · exact .inr (.inr (.inl ⟨_, _, rfl, rfl⟩))
    · exact .inr (.inr (.inl ⟨_, _, rfl, rfl⟩))
    · exact .inr (.inr (.inr fun E => .inl ⟨_, _, rfl, rfl⟩))
    · exact .inr (.inr (.inr fun E => .inl ⟨_, _, rfl, rfl⟩))
    · exact .inr (.inr (.inr fun E => .inl ⟨_, _, rfl, rfl⟩))
    · exact .inr (.inr (.inr fun E => .inr ⟨_, _, _, _, _, _, rfl, rfl⟩))
    · exact .inr (.inr (.inr fun E => .inr ⟨_, _, _, _, _, _, rfl, rfl⟩))
    · exact .inr (.inr (.inr fun E => .inr ⟨_, _, _, _, _, _, rfl, rfl⟩))
    · exact .inr (.inr (.inr fun E => .inr ⟨_, _, _, _, _, _, rfl, rfl⟩))
    · cases h
theorem binOK (P : Program) : BinOK P := by
  intro E w a op t x y xo yo kn d hx hy h
  unfold binD at h
  split at h
  · rename_i k p hp
    have hxe := intOf?_spec hp
    split at h
    · rename_i l q hq
      have hye := intOf?_spec hq
      subst hxe hye
      have hpur := binII_spec (P := P) (E := E) (w := w) t h
      refine ⟨hpur.wr, hpur.nw, fun hc => ?_⟩
      have := hpur.run hc
      simp only [LV.den, V1.den, At.den, Sem.run_bind]
      have hg : (eqGuard op t xo yo (.int k p) (.int l q)).run P w = .ok () w := by
        unfold eqGuard
        cases op <;> simp
      rw [hg]
      exact this
    · cases h
  · rename_i hni
    split at h
    · rename_i u hu
      split at h
      · rename_i v hv
        have hxe : x = .v u := by
          unfold v1Of? at hu
          split at hu
          · cases hu; rfl
          · cases hu
        have hye : y = .v v := by
          unfold v1Of? at hv
          split at hv
          · cases hv; rfl
          · cases hv
        subst hxe hye
        have key : ∀ (r : Bool), P.eqGuardType P.depth t = false → eqV P 10000 t u v = some r → (op = .eql ∨ op = .neq) →
            (eqGuard op t xo yo (u.den E) (v.den E)).run P w = .ok () w ∧ (Op.equal t (u.den E) (v.den E)).run P w = .ok r w := by
          intro r hg hr hop
          refine ⟨?_, eqV_spec w hr⟩
          unfold eqGuard
          rcases eqV_shape hr with ⟨p, q, rfl, rfl⟩ | ⟨k, p, l, q, rfl, rfl⟩ | ⟨p, q, rfl, rfl⟩ | hptr
          · rcases hop with rfl | rfl <;> simp [V1.den, At.den]
          · rcases hop with rfl | rfl <;> simp [V1.den, At.den]
          · have hprog : (program : Sem Program).run P w = .ok P w := rfl
            rcases hop with rfl | rfl <;> simp [V1.den, hprog, hg]
          · rcases hptr E with ⟨p, q, e1, e2⟩ | ⟨p, n, c, q, m, d, e1, e2⟩
            · rw [e1, e2]
              rcases hop with rfl | rfl <;> simp
            · rw [e1, e2]
              rcases hop with rfl | rfl <;> simp
        unfold binEq at h
        split at h
        · split at h
          · rename_i r hg hr
            refine pur_val1 h ?_
            obtain ⟨h1, h2⟩ := key r hg hr (.inl rfl)
            simp only [LV.den, Sem.run_bind, h1, Result.andThen_ok]
            rcases eqV_shape hr with ⟨p, q, rfl, rfl⟩ | ⟨k, p, l, q, rfl, rfl⟩ | ⟨p, q, rfl, rfl⟩ | hptr
            · simp only [V1.den, At.den] at h2 ⊢
              simp only [binOp, Sem.run_bind, h2, Result.andThen_ok, Sem.run_pure]
            · simp [intOf?] at hni
            · simp only [V1.den] at h2 ⊢
              simp only [binOp, Sem.run_bind, h2, Result.andThen_ok, Sem.run_pure]
              rfl
            · rcases hptr E with ⟨p, q, e1, e2⟩ | ⟨p, n, c, q, m, d, e1, e2⟩
              · simp only [e1, e2] at h2 ⊢
                simp only [binOp, Sem.run_bind, h2, Result.andThen_ok, Sem.run_pure]
                rfl
              · simp only [e1, e2] at h2 ⊢
                simp only [binOp, Sem.run_bind, h2, Result.andThen_ok, Sem.run_pure]
                rfl
          · cases h
        · split at h
          · rename_i r hg hr
            refine pur_val1 h ?_
            obtain ⟨h1, h2⟩ := key r hg hr (.inr rfl)
            simp only [LV.den, Sem.run_bind, h1, Result.andThen_ok]
            rcases eqV_shape hr with ⟨p, q, rfl, rfl⟩ | ⟨k, p, l, q, rfl, rfl⟩ | ⟨p, q, rfl, rfl⟩ | hptr
            · simp only [V1.den, At.den] at h2 ⊢
              simp only [binOp, Sem.run_bind, h2, Result.andThen_ok, Sem.run_pure]
            · simp [intOf?] at hni
            · simp only [V1.den] at h2 ⊢
              simp only [binOp, Sem.run_bind, h2, Result.andThen_ok, Sem.run_pure]
              rfl
            · rcases hptr E with ⟨p, q, e1, e2⟩ | ⟨p, n, c, q, m, d, e1, e2⟩
              · simp only [e1, e2] at h2 ⊢
                simp only [binOp, Sem.run_bind, h2, Result.andThen_ok, Sem.run_pure]
                rfl
              · simp only [e1, e2] at h2 ⊢
                simp only [binOp, Sem.run_bind, h2, Result.andThen_ok, Sem.run_pure]
                rfl
          · cases h
        · cases h
      · cases h
    · cases h
end
end Go.Lr

/- The local evaluator: from a run to what a call does; summaries. -/
set_option linter.unusedVariables false
set_option linter.unusedSimpArgs false
namespace Go.Lr
open Go.RowKit
def E0 : Env := fun _ => Loc.at 0 0
def noP : Nat → Bool := fun _ => false
theorem den_noP {E : Env} {v : LV} (h : v.ok noP = true) : v.den E = v.den E0 := LV.den_congr (p := noP) (fun i hi => by cases hi) h
theorem denL_noP {E : Env} {l : List LV} (h : ∀ v ∈ l, v.ok noP = true) : l.map (LV.den E) = l.map (LV.den E0) := List.map_congr_left fun v hv => den_noP (h v hv)
theorem denA_noP {E : Env} {l : List At} (h : okL noP l = true) : l.map (At.den E) = l.map (At.den E0) := denL_congr (p := noP) (fun i hi => by cases hi) h
theorem noP_below {n : Nat} : ∀ i, noP i = true → below n i = true := fun i hi => by cases hi
structure Sound (P : Program) (S : FuncId → Option SumK) : Prop where
  sums : AllOK P S
  mix : P.follows .mixedOrders = true
  ng : ∀ (f : FuncId) (fn : Func), P.funcs[f]? = some fn → fn.name ≠ "runtime.NumGoroutine"
def plainVs (l : List LV) : Bool :=
  match l with
  | [] => true
  | v :: l => match v.ok noP with
    | true => plainVs l
    | false => false
theorem plainVs_iff : ∀ {l : List LV}, plainVs l = true ↔ ∀ v ∈ l, v.ok noP = true
  | [] => by simp [plainVs]
  | v :: l => by
    simp only [plainVs, List.mem_cons, forall_eq_or_imp]
    cases h : v.ok noP <;> simp [plainVs_iff (l := l)]
section
variable {P : Program} {S : FuncId → Option SumK} {z : Md}
theorem runF_body {n : Nat} {f : FuncId} {args : List LV} {m : Mem} {nb : Nat} {dec : List (Option Bool)} {v : LV} {m' : Mem} {nb' : Nat} {cs : List (Bool × Bool)} (h : runF P S z n f args m nb dec = some (v, m', nb', cs)) :
    ∃ s', exec P S z n (.body f args) ⟨.nil, 0, m, nb, dec, [], []⟩ = some (.val v, s') ∧ s'.mem = m' ∧ s'.nb = nb' ∧ s'.cs = cs := by
  unfold runF at h
  split at h
  · rename_i u s hs
    cases h
    exact ⟨s, hs, rfl, rfl, rfl⟩
  · cases h
theorem calls_of_run (hs : Sound P S) {n : Nat} {f : FuncId} {args : List LV} {dec : List (Option Bool)} {v : LV} {m' : Mem} {nb' : Nat} {cs : List (Bool × Bool)} (h : runF P S z n f args [] 0 dec = some (v, m', nb', cs))
    (hc : ∀ c ∈ cs, c.1 = c.2) (ha : plainVs args = true) (hv : v.ok noP = true) (w : World) :
    Calls P f (args.map (LV.den E0)).toArray w fun e w' => e = .returned (v.den E0) ∧ Below w.heap.size w w' := by
  obtain ⟨s', h1, h2, h3, h4⟩ := runF_body h
  have ha' := plainVs_iff.1 ha
  obtain ⟨v', b1, b2, b3, b4, b5, b6, b7, b8⟩ := (exec_sound (binOK P) hs.sums hs.mix hs.ng n).2.2.2 f args _ _ s' h1 (fun i b hb => by simp [getM] at hb) trivial (fun u hu => LV.ok_mono noP_below (ha' u hu))
  cases b1
  have := b8 (by rw [Good, h4]; exact hc) E0 w ⟨⟨fun i b hb => by simp [getM] at hb, fun i j hi => by simp [getM] at hi⟩, fun i b hb => by simp [getM] at hb, trivial⟩
  refine this.mono fun e w' he => ?_
  obtain ⟨E', rfl, _, hx⟩ := he
  refine ⟨by rw [den_noP hv], hx.os, hx.tape, hx.output, hx.size, fun k hk => hx.frame k hk fun i hi => by simp [getM] at hi⟩
def Own (P : Program) (f : FuncId) : Prop := ∃ fn, P.funcs[f]? = some fn ∧ fn.name ≠ "runtime.NumGoroutine" ∧ fn.body.isSome
theorem own_of (hs : Sound P S) {f : FuncId} {fn : Func} (h : P.funcs[f]? = some fn) (hb : fn.body.isSome = true) : Own P f := ⟨fn, h, hs.ng f fn h, hb⟩
theorem post_plain {w w' : World} {E : Env} {g : Nat → Option Blk} {nb : Nat} {v : LV} {cs : List (Bool × Bool)} (hr : Rel E g w) (hb : Below w.heap.size w w') : Post w E g nb ⟨v, [], [], [], cs⟩ E w' := by
  refine ⟨fun _ _ => rfl, ⟨fun i b h => ?_, hr.inj⟩, hb.os, hb.tape, hb.output, hb.size, fun k hk _ => hb.block k hk, fun i h1 h2 => by simp at h2; omega⟩
  obtain ⟨r, h1, h2, h3⟩ := hr.blk i b h
  exact ⟨r, by rw [hb.block _ (Array.getElem?_eq_some_iff.1 h1).1]; exact h1, h2, h3⟩
-- summaries of functions of plain values
def pureSum (F : List LV → Option (LV × List (Bool × Bool))) : Sum := fun args =>
  match plainVs args with
  | true => match F args with
    | some (v, cs) => match v.ok noP with
      | true => some ⟨[], [], fun _ _ _ => some ⟨v, [], [], cs⟩⟩
      | false => none
    | none => none
  | false => none
theorem pureSum_ok {f : FuncId} {F : List LV → Option (LV × List (Bool × Bool))}
    (h : ∀ args v cs, F args = some (v, cs) → (∀ c ∈ cs, c.1 = c.2) → ∀ w, CallOK P f (args.map (LV.den E0)).toArray w fun u w' => u = v.den E0 ∧ Below w.heap.size w w') : SumOK P f (pureSum F) := by
  intro args t g nb p rdB wrB ans ws E w hs hr hw _ hgo hz hc hrel hg hargs hn
  unfold pureSum at hs
  split at hs
  · rename_i hp
    split at hs
    · rename_i v cs hF
      split at hs
      · rename_i hv
        cases hs
        simp only [Option.some.injEq] at hgo
        subst hgo
        simp only [zipW] at hz
        cases hz
        rw [denL_noP (plainVs_iff.1 hp)]
        refine (h args v cs hF hc w).imp (fun ⟨fn, h1, h2, h3, h4⟩ => ⟨fn, h1, h2, h3, h4.mono ?_⟩) (fun ⟨u, w', h1, h2⟩ => ⟨u, w', h1, E, ?_, post_plain hrel h2.2⟩)
        · rintro e w' ⟨u, rfl, rfl, hb⟩
          exact ⟨_, rfl, E, (den_noP hv).symm, post_plain hrel hb⟩
        · rw [h2.1]; exact (den_noP hv).symm
      · cases hs
    · cases hs
  · cases hs
theorem callOK_of {f : FuncId} {args : Array Value} {w : World} {v : Value} {B : World → World → Prop} (ho : Own P f) (h : Calls P f args w fun e w' => e = .returned v ∧ B w w') : CallOK P f args w fun u w' => u = v ∧ B w w' := by
  obtain ⟨fn, h1, h2, h3⟩ := ho
  exact .inl ⟨fn, h1, h2, h3, h.mono fun e w' he => ⟨v, he.1, rfl, he.2⟩⟩
-- a pointer to a struct of one flag, and plain values
structure Turned (b : Nat) (o : Obj) (w w' : World) : Prop where
  os : w'.os = w.os
  tape : w'.tape = w.tape
  output : w'.output = w.output
  size : w.heap.size ≤ w'.heap.size
  this : w'.heap[b]? = some o
  block : ∀ k, k < w.heap.size → k ≠ b → w'.heap[k]? = w.heap[k]?
def flag (ty : TypeId) (h : Bool) : Blk := ⟨ty, (0, 0), 0, [.bool h]⟩
def flagW (L : Loc) (ty : TypeId) (h : Bool) : Obj := .cells (L.pre ++ [Value.bool h] ++ [] ++ L.suf).toArray (L.ty.getD ty) (0, 0)
abbrev Loc.ptr (L : Loc) : Value := .pointer (some ⟨L.blk, L.pre.length, none⟩)
theorem acc_of_run (hs : Sound P S) {n : Nat} {f : FuncId} {args : List LV} {dec : List (Option Bool)} {v : LV} {m' : Mem} {nb' : Nat} {cs : List (Bool × Bool)} {ty : TypeId} {h h' : Bool}
    (hrun : runF P S z n f (.v (.one (.ptr 0 0)) :: args) [(0, flag ty h)] 1 dec = some (v, m', nb', cs)) (hm : getM m' 0 = some (flag ty h')) (hc : ∀ c ∈ cs, c.1 = c.2) (ha : plainVs args = true) (hv : v.ok noP = true)
    (w : World) (L : Loc) (hb : w.heap[L.blk]? = some (flagW L ty h)) :
    Calls P f (L.ptr :: args.map (LV.den E0)).toArray w fun e w' => e = .returned (v.den E0) ∧ Turned L.blk (flagW L ty h') w w' := by
  obtain ⟨s', h1, h2, h3, h4⟩ := runF_body hrun
  have ha' := plainVs_iff.1 ha
  have hget : ∀ i c, getM [(0, flag ty h)] i = some c → i = 0 ∧ c = flag ty h := by
    intro i c hc
    rw [getM_cons] at hc
    by_cases hi : i = 0
    · rw [if_pos hi] at hc; cases hc; exact ⟨hi, rfl⟩
    · rw [if_neg hi] at hc; simp [getM] at hc
  obtain ⟨v', b1, b2, b3, b4, b5, b6, b7, b8⟩ := (exec_sound (binOK P) hs.sums hs.mix hs.ng n).2.2.2 f (.v (.one (.ptr 0 0)) :: args) _ _ s' h1 (fun i c hc => by
    obtain ⟨rfl, rfl⟩ := hget i c hc
    exact ⟨Nat.zero_lt_one, rfl⟩) ⟨rfl, trivial⟩ (fun u hu => by
    rcases List.mem_cons.1 hu with rfl | hu
    · rfl
    · exact LV.ok_mono noP_below (ha' u hu))
  cases b1
  have hmr : MRel (fun _ => L) ⟨.nil, 0, [(0, flag ty h)], 1, dec, [], []⟩ w := by
    refine ⟨⟨fun i c hc => ?_, fun i j hi hj _ => ?_⟩, fun i c hc => ?_, ⟨rfl, trivial⟩⟩
    · obtain ⟨rfl, rfl⟩ := hget i c hc
      exact ⟨[], hb, fun _ => rfl, fun hne => absurd rfl hne⟩
    · obtain ⟨c, hc⟩ := Option.isSome_iff_exists.1 hi
      obtain ⟨d, hd⟩ := Option.isSome_iff_exists.1 hj
      rw [(hget i c hc).1, (hget j d hd).1]
    · obtain ⟨rfl, rfl⟩ := hget i c hc
      exact ⟨Nat.zero_lt_one, rfl⟩
  have := b8 (by rw [Good, h4]; exact hc) (fun _ => L) w hmr
  have hargs : ((LV.v (V1.one (At.ptr 0 0))) :: args).map (LV.den fun _ => L) = L.ptr :: args.map (LV.den E0) := by
    rw [List.map_cons, denL_noP ha']
    simp [LV.den, V1.den, At.den]
  rw [hargs] at this
  refine this.mono fun e w' he => ?_
  obtain ⟨E', rfl, hmr', hx⟩ := he
  refine ⟨by rw [den_noP hv], hx.os, hx.tape, hx.output, hx.size, ?_, fun k hk hne => hx.frame k hk fun i hi he => ?_⟩
  · obtain ⟨r, g1, g2, _⟩ := hmr'.rel.blk 0 (flag ty h') (by rw [h2]; exact hm)
    rw [hx.agree 0 (by show 0 < 1; omega)] at g1
    rw [g1, g2 rfl]
    rfl
  · exact hne he.symm
def cellLoc (L : Loc) (E : Env) (t : TypeId) (l : List At) (r : List Value) (o : Nat) : Loc := ⟨L.blk, 0, L.pre ++ (l.take o).map (At.den E), (l.drop (o + 1)).map (At.den E) ++ r ++ L.suf, some (L.ty.getD t)⟩
theorem cellLoc_eq {L : Loc} {E : Env} {t : TypeId} {l : List At} {r : List Value} {o : Nat} (ty : TypeId) {h : Bool} (hl : o < l.length) :
    flagW (cellLoc L E t l r o) ty h = .cells (L.pre ++ (l.set o (.bool h)).map (At.den E) ++ r ++ L.suf).toArray (L.ty.getD t) (0, 0) := by
  unfold flagW cellLoc
  have e : l.set o (.bool h) = l.take o ++ .bool h :: l.drop (o + 1) := by rw [List.set_eq_take_append_cons_drop, if_pos hl]
  rw [e]
  simp [At.den]
theorem set_same {l : List At} {o : Nat} {x : At} (h : atL l o = some x) : l.set o x = l := by
  rw [atL_spec] at h
  obtain ⟨hl, he⟩ := List.getElem?_eq_some_iff.1 h
  rw [← he]; exact List.set_getElem_self hl
theorem post_turned {w w' : World} {E : Env} {g : Nat → Option Blk} {nb c o : Nat} {v : LV} {t ty : TypeId} {es : Nat} {l : List At} {r : List Value} {h' : Bool} (hr : Rel E g w) (hc : g c = some ⟨t, (0, 0), es, l⟩) (ho : o < l.length)
    (hr1 : es = 0 → r = []) (hr2 : es ≠ 0 → l.length + r.length = (E c).2 * es) (ht : Turned (E c).1 (flagW (cellLoc (E c) E t l r o) ty h') w w') :
    Post w E g nb ⟨v, [(c, some ⟨t, (0, 0), es, l.set o (.bool h')⟩)], [], [], []⟩ E w' := by
  refine ⟨fun _ _ => rfl, ⟨fun i b hb => ?_, fun i j hi hj he => ?_⟩, ht.os, ht.tape, ht.output, ht.size, fun k hk hne => ht.block k hk (fun e => hne c (by simp [hc]) e.symm), fun i h1 h2 => by simp at h2; omega⟩
  · simp only [nwG, wrG] at hb
    by_cases hi : i = c
    · subst hi
      rw [if_pos rfl] at hb
      cases hb
      refine ⟨r, ?_, hr1, fun hne => ?_⟩
      · rw [ht.this, cellLoc_eq ty ho]
      · show (l.set o _).length + _ = _
        rw [List.length_set]; exact hr2 hne
    · rw [if_neg hi] at hb
      obtain ⟨r, h1, h2, h3⟩ := hr.blk i b hb
      refine ⟨r, ?_, h2, h3⟩
      rw [ht.block _ (Array.getElem?_eq_some_iff.1 h1).1 (fun e => hi (hr.inj i c (by simp [hb]) (by simp [hc]) e))]
      exact h1
  · simp only [nwG, wrG] at hi hj
    refine hr.inj i j ?_ ?_ he
    · by_cases h1 : i = c
      · rw [h1]; simp [hc]
      · simpa [if_neg h1] using hi
    · by_cases h1 : j = c
      · rw [h1]; simp [hc]
      · simpa [if_neg h1] using hj
def accSum (ty : TypeId) (F : List LV → Bool → Option (LV × Bool × List (Bool × Bool))) : Sum := fun args =>
  match args with
  | .v (.one (.ptr c o)) :: rest => match plainVs rest with
    | true => some ⟨[], [c], fun _ wB _ => match wB with
      | [⟨t, (0, 0), es, l⟩] => match atL l o with
        | some (.bool h) => match F rest h with
          | some (v, h', cs) => match v.ok noP with
            | true => some ⟨v, [⟨t, (0, 0), es, l.set o (.bool h')⟩], [], cs⟩
            | false => none
          | none => none
        | _ => none
      | _ => none⟩
    | false => none
  | _ => none
theorem accSum_ok {f : FuncId} {ty : TypeId} {F : List LV → Bool → Option (LV × Bool × List (Bool × Bool))}
    (h : ∀ args hb v h' cs, F args hb = some (v, h', cs) → (∀ c ∈ cs, c.1 = c.2) → plainVs args = true → ∀ (w : World) (L : Loc), w.heap[L.blk]? = some (flagW L ty hb) →
      CallOK P f (L.ptr :: args.map (LV.den E0)).toArray w fun u w' => u = v.den E0 ∧ Turned L.blk (flagW L ty h') w w') : SumOK P f (accSum ty F) := by
  intro args t g nb p rdB wrB ans ws E w hs hr hw _ hgo hz hc hrel hg hargs hn
  unfold accSum at hs
  split at hs
  · rename_i c o rest
    split at hs
    · rename_i hp
      cases hs
      simp only at hgo hw
      split at hgo
      · rename_i t' es l
        split at hgo
        · rename_i hb hat
          split at hgo
          · rename_i v h' cs hF
            split at hgo
            · rename_i hv
              cases hgo
              simp only [liveAll] at hw
              split at hw
              · rename_i k r hk hr'
                cases hr'
                cases hw
                simp only [zipW] at hz
                cases hz
                obtain ⟨r', g1, g2, g3⟩ := hrel.blk c _ hk
                have hlt : o < l.length := atL_lt hat
                have hcell : w.heap[(cellLoc (E c) E t' l r' o).blk]? = some (flagW (cellLoc (E c) E t' l r' o) ty hb) := by
                  rw [cellLoc_eq ty hlt, set_same hat]; exact g1
                have hargs' : ((LV.v (V1.one (At.ptr c o))) :: rest).map (LV.den E) = (cellLoc (E c) E t' l r' o).ptr :: rest.map (LV.den E0) := by
                  rw [List.map_cons, denL_noP (plainVs_iff.1 hp)]
                  have e : (cellLoc (E c) E t' l r' o).pre.length = o + (E c).pre.length := by
                    unfold cellLoc; simp; omega
                  show _ = Value.pointer (some ⟨(E c).blk, (cellLoc (E c) E t' l r' o).pre.length, none⟩) :: _
                  rw [e]; rfl
                rw [hargs']
                refine (h rest hb v h' cs hF hc hp w (cellLoc (E c) E t' l r' o) hcell).imp (fun ⟨fn, h1, h2, h3, h4⟩ => ⟨fn, h1, h2, h3, h4.mono ?_⟩) (fun ⟨u, w', h1, h2⟩ => ⟨u, w', h1, E, ?_, post_turned hrel hk hlt g2 g3 h2.2⟩)
                · rintro e w' ⟨u, rfl, rfl, ht⟩
                  exact ⟨_, rfl, E, (den_noP hv).symm, post_turned hrel hk hlt g2 g3 ht⟩
                · rw [h2.1]; exact (den_noP hv).symm
              · cases hw
            · cases hgo
          · cases hgo
        · cases hgo
      · cases hgo
    · cases hs
  · cases hs
-- math/bits.Add64, Sub64: the model answers
def addF : List LV → Option (LV × List (Bool × Bool))
  | [.v (.one (.int .u64 x)), .v (.one (.int .u64 y)), .v (.one (.int .u64 c))] =>
    some (.tup [.one (.int .u64 (u64 (x + y + c))), .one (.int .u64 ((x + y + c) / 18446744073709551616))], [(decide (0 ≤ x) && (decide (0 ≤ y) && (decide (0 ≤ c) && decide (c ≤ 1))), true)])
  | _ => none
def borrow (x y c : Int) : Int := if x < y + c then 1 else 0
def subF : List LV → Option (LV × List (Bool × Bool))
  | [.v (.one (.int .u64 x)), .v (.one (.int .u64 y)), .v (.one (.int .u64 c))] =>
    some (.tup [.one (.int .u64 (u64 (x - y - c))), .one (.int .u64 (borrow x y c))], [(decide (0 ≤ x) && (decide (0 ≤ y) && (decide (y < 18446744073709551616) && (decide (0 ≤ c) && decide (c ≤ 1)))), true)])
  | _ => none
theorem add64_ok {f : FuncId} {fn : Func} (hf : P.funcs[f]? = some fn) (hname : (fn.name == "runtime.NumGoroutine") = false) (hb : fn.body.isNone = true) (hn : Extern.findNext fn = none) (he : Extern.find fn = some add64Entry) : SumOK P f (pureSum addF) := by
  refine pureSum_ok fun args v cs hF hc w => .inr ?_
  unfold addF at hF
  split at hF
  · rename_i x y c
    cases hF
    have hx := hc _ (List.mem_singleton.2 rfl)
    simp only [Bool.and_eq_true, decide_eq_true_eq] at hx
    obtain ⟨h1, h2, h3, h4⟩ := hx
    refine ⟨_, w, ?_, rfl, .refl _ _⟩
    have : ([LV.v (V1.one (At.int .u64 x)), .v (.one (.int .u64 y)), .v (.one (.int .u64 c))].map (LV.den E0)).toArray = #[.int .u64 x, .int .u64 y, .int .u64 c] := rfl
    rw [this, run_callFunc_extern hf hname hb hn he, run_add64 x y c h1 h2 h3 h4]
    rfl
  · cases hF
def sub64E : Array Value → Sem Value := fun args => do
  let (x, y, b) ← Extern.MathBitsCarry.three "Sub64" args
  pure (Extern.MathBitsCarry.pair ((x + Extern.MathBitsCarry.m64 - y - b) % Extern.MathBitsCarry.m64) (if x < y + b then 1 else 0))
theorem run_sub64E (x y b : Nat) (hb : b ≤ 1) (w : World) :
    (sub64E #[.int .u64 x, .int .u64 y, .int .u64 b]).run P w =
      .ok (.tuple #[.int .u64 (((x + 18446744073709551616 - y - b) % 18446744073709551616 : Nat) : Int), .int .u64 ((if x < y + b then 1 else 0 : Nat) : Int)]) w := by
  have : b = 0 ∨ b = 1 := by omega
  rcases this with rfl | rfl <;> rfl
theorem sub64_ok {f : FuncId} {fn : Func} (hf : P.funcs[f]? = some fn) (hname : (fn.name == "runtime.NumGoroutine") = false) (hb : fn.body.isNone = true) (hn : Extern.findNext fn = none) (he : Extern.find fn = some sub64E) : SumOK P f (pureSum subF) := by
  refine pureSum_ok fun args v cs hF hc w => .inr ?_
  unfold subF at hF
  split at hF
  · rename_i x y c
    cases hF
    have hx := hc _ (List.mem_singleton.2 rfl)
    simp only [Bool.and_eq_true, decide_eq_true_eq] at hx
    obtain ⟨h1, h2, h2', h3, h4⟩ := hx
    obtain ⟨X, rfl⟩ := Int.eq_ofNat_of_zero_le h1
    obtain ⟨Y, rfl⟩ := Int.eq_ofNat_of_zero_le h2
    obtain ⟨C, rfl⟩ := Int.eq_ofNat_of_zero_le h3
    refine ⟨_, w, ?_, rfl, .refl _ _⟩
    have : ([LV.v (V1.one (At.int .u64 (X : Int))), .v (.one (.int .u64 (Y : Int))), .v (.one (.int .u64 (C : Int)))].map (LV.den E0)).toArray = #[.int .u64 (X : Int), .int .u64 (Y : Int), .int .u64 (C : Int)] := rfl
    rw [this, run_callFunc_extern hf hname hb hn he, run_sub64E X Y C (by omega)]
    have e1 : (((X + 18446744073709551616 - Y - C) % 18446744073709551616 : Nat) : Int) = u64 ((X : Int) - Y - C) := by unfold u64; omega
    have e2 : ((if X < Y + C then 1 else 0 : Nat) : Int) = if (X : Int) < (Y : Int) + (C : Int) then 1 else 0 := by
      by_cases h : X < Y + C
      · rw [if_pos h, if_pos (by omega)]; rfl
      · rw [if_neg h, if_neg (by omega)]; rfl
    rw [e1, e2]
    rfl
  · cases hF
end
end Go.Lr

/- The local evaluator: summaries that the evaluator makes itself. -/
namespace Go.Lr
open Go.RowKit
section
variable {P : Program} {S : FuncId → Option SumK} {z : Md}
def autoP (P : Program) (S : FuncId → Option SumK) (z : Md) (n : Nat) (f : FuncId) : Sum := pureSum fun args =>
  match runF P S z n f args [] 0 [] with
  | some (v, _, _, cs) => some (v, cs)
  | none => none
theorem pureSum_ok' {f : FuncId} {F : List LV → Option (LV × List (Bool × Bool))}
    (h : ∀ args v cs, F args = some (v, cs) → (∀ c ∈ cs, c.1 = c.2) → plainVs args = true → v.ok noP = true → ∀ w, CallOK P f (args.map (LV.den E0)).toArray w fun u w' => u = v.den E0 ∧ Below w.heap.size w w') : SumOK P f (pureSum F) := by
  intro args t g nb p rdB wrB ans ws E w hs hr hw hnd hgo hz hc hrel hg hargs hn
  refine pureSum_ok (F := fun a => if plainVs a = true then (match F a with | some (v, cs) => if v.ok noP = true then some (v, cs) else none | none => none) else none) (fun args v cs hF hc w => ?_) args t g nb p rdB wrB ans ws E w ?_ hr hw hnd hgo hz hc hrel hg hargs hn
  · split at hF
    · rename_i hp
      split at hF
      · rename_i v' cs' hF'
        split at hF
        · rename_i hv
          cases hF
          exact h args v cs hF' hc hp hv w
        · cases hF
      · cases hF
    · cases hF
  · unfold pureSum at hs ⊢
    cases hp : plainVs args with
    | false => rw [hp] at hs; cases hs
    | true =>
      rw [hp] at hs
      simp only [hp, if_true] at hs ⊢
      cases hF : F args with
      | none => rw [hF] at hs; cases hs
      | some q =>
        obtain ⟨v, cs⟩ := q
        rw [hF] at hs
        simp only at hs ⊢
        cases hv : v.ok noP with
        | false => rw [hv] at hs; cases hs
        | true =>
          rw [hv] at hs
          simp only [if_true, hv]
          exact hs
theorem autoP_ok (hs : Sound P S) {n : Nat} {f : FuncId} (ho : Own P f) : SumOK P f (autoP P S z n f) := by
  refine pureSum_ok' fun args v cs hF hc hp hv w => ?_
  split at hF
  · rename_i v' m' nb' cs' hrun
    cases hF
    exact callOK_of ho (calls_of_run hs hrun hc hp hv w)
  · cases hF
def refTo : LV → Option (Nat × LV)
  | .v (.one (.ptr b o)) => some (b, .v (.one (.ptr 0 o)))
  | .v (.one (.sl b o n c)) => some (b, .v (.one (.sl 0 o n c)))
  | _ => none
theorem refTo_spec {x y : LV} {b : Nat} (h : refTo x = some (b, y)) (E : Env) : x.den E = y.den (fun _ => E b) ∧ y.ok (below 1) = true ∧ ∀ E', y.den E' = y.den fun _ => E' 0 := by
  unfold refTo at h
  split at h <;> first | (cases h; exact ⟨rfl, rfl, fun _ => rfl⟩) | cases h
def autoM (P : Program) (S : FuncId → Option SumK) (z : Md) (n : Nat) (f : FuncId) : Sum := fun args =>
  match args with
  | x :: rest => match refTo x, plainVs rest with
    | some (b, y), true => some ⟨[], [b], fun _ wB _ => match wB with
      | [k] => match okL noP k.cells with
        | true => match runF P S z n f (y :: rest) [(0, k)] 1 [] with
          | some (v, m', _, cs) => match getM m' 0 with
            | some k' => match Nat.beq k'.es k.es, okL noP k'.cells, v.ok noP with
              | true, true, true => some ⟨v, [k'], [], cs⟩
              | _, _, _ => none
            | none => none
          | none => none
        | false => none
      | _ => none⟩
    | _, _ => none
  | [] => none
theorem autoM_ok (hs : Sound P S) {n : Nat} {f : FuncId} (ho : Own P f) : SumOK P f (autoM P S z n f) := by
  intro args t g nb p rdB wrB ans ws E w hs' hr hw _ hgo hz hc hrel hg hargs hn
  unfold autoM at hs'
  split at hs'
  · rename_i x rest
    split at hs'
    · rename_i b y href hp
      cases hs'
      simp only at hgo hw
      split at hgo
      · rename_i k
        split at hgo
        · rename_i hk
          split at hgo
          · rename_i v m' nb' cs hrun
            split at hgo
            · rename_i k' hk'
              split at hgo
              · rename_i hes hok' hv
                cases hgo
                simp only [liveAll] at hw
                split at hw
                · rename_i q r hq hr'
                  cases hr'
                  cases hw
                  simp only [zipW] at hz
                  cases hz
                  rw [nbeq] at hes
                  have hes' : k'.es = k.es := by simpa using hes
                  obtain ⟨r1, r2, r3⟩ := refTo_spec href E
                  have hp' := plainVs_iff.1 hp
                  obtain ⟨s', h1, h2, h3, h4⟩ := runF_body hrun
                  have hget : ∀ i c, getM [(0, k)] i = some c → i = 0 ∧ c = k := by
                    intro i c hc
                    rw [getM_cons] at hc
                    by_cases hi : i = 0
                    · rw [if_pos hi] at hc; cases hc; exact ⟨hi, rfl⟩
                    · rw [if_neg hi] at hc; simp [getM] at hc
                  obtain ⟨v', b1, b2, b3, b4, b5, b6, b7, b8⟩ := (exec_sound (binOK P) hs.sums hs.mix hs.ng n).2.2.2 f (y :: rest) _ _ s' h1 (fun i c hc => by
                    obtain ⟨rfl, rfl⟩ := hget i c hc
                    exact ⟨Nat.zero_lt_one, okL_mono noP_below hk⟩) ⟨rfl, trivial⟩ (fun u hu => by
                    rcases List.mem_cons.1 hu with rfl | hu
                    · exact r2
                    · exact LV.ok_mono noP_below (hp' u hu))
                  cases b1
                  obtain ⟨r0, g1, g2, g3⟩ := hrel.blk b k hq
                  have hmr : MRel (fun _ => E b) ⟨.nil, 0, [(0, k)], 1, [], [], []⟩ w := by
                    refine ⟨⟨fun i c hc => ?_, fun i j hi hj _ => ?_⟩, fun i c hc => ?_, ⟨rfl, trivial⟩⟩
                    · obtain ⟨rfl, rfl⟩ := hget i c hc
                      exact ⟨r0, by rw [denA_noP hk] at g1 ⊢; exact g1, g2, g3⟩
                    · obtain ⟨c, hc⟩ := Option.isSome_iff_exists.1 hi
                      obtain ⟨d, hd⟩ := Option.isSome_iff_exists.1 hj
                      rw [(hget i c hc).1, (hget j d hd).1]
                    · obtain ⟨rfl, rfl⟩ := hget i c hc
                      exact ⟨Nat.zero_lt_one, okL_mono noP_below hk⟩
                  have hcall := b8 (by rw [Good, h4]; exact hc) (fun _ => E b) w hmr
                  have hargs' : ((y :: rest).map (LV.den fun _ => E b)) = (x :: rest).map (LV.den E) := by
                    rw [List.map_cons, List.map_cons, ← r1, denL_noP hp', denL_noP (E := E) hp']
                  rw [hargs'] at hcall
                  obtain ⟨fn, f1, f2, f3⟩ := ho
                  refine .inl ⟨fn, f1, f2, f3, hcall.mono ?_⟩
                  rintro e w' ⟨E', rfl, hmr', hx⟩
                  refine ⟨_, rfl, E, by rw [den_noP hv, den_noP (E := E) hv], ?_⟩
                  obtain ⟨r', q1, q2, q3⟩ := hmr'.rel.blk 0 k' (by rw [h2]; exact hk')
                  rw [hx.agree 0 (by show 0 < 1; omega)] at q1 q3
                  have hframe : ∀ j, j < w.heap.size → j ≠ (E b).1 → w'.heap[j]? = w.heap[j]? := fun j hj hne => hx.frame j hj fun i hi he => hne he.symm
                  refine ⟨fun _ _ => rfl, ⟨fun i c hic => ?_, fun i j hi hj he => ?_⟩, hx.os, hx.tape, hx.output, hx.size, fun j hj hne => hframe j hj fun e => hne b (by simp [hq]) e.symm, fun i h1 h2 => by simp at h2; omega⟩
                  · simp only [nwG, wrG] at hic
                    by_cases hi : i = b
                    · subst hi
                      rw [if_pos rfl] at hic
                      cases hic
                      exact ⟨r', by rw [denA_noP hok'] at q1 ⊢; exact q1, q2, q3⟩
                    · rw [if_neg hi] at hic
                      obtain ⟨r, u1, u2, u3⟩ := hrel.blk i c hic
                      refine ⟨r, ?_, u2, u3⟩
                      rw [hframe _ (Array.getElem?_eq_some_iff.1 u1).1 (fun e => hi (hrel.inj i b (by simp [hic]) (by simp [hq]) e))]
                      exact u1
                  · simp only [nwG, wrG] at hi hj
                    refine hrel.inj i j ?_ ?_ he
                    · by_cases h1 : i = b
                      · rw [h1]; simp [hq]
                      · simpa [if_neg h1] using hi
                    · by_cases h1 : j = b
                      · rw [h1]; simp [hq]
                      · simpa [if_neg h1] using hj
                · cases hw
              · cases hgo
            · cases hgo
          · cases hgo
        · cases hgo
      · cases hgo
    · cases hs'
  · cases hs'
def more (S : FuncId → Option SumK) (f : FuncId) (s : Sum) : FuncId → Option SumK := fun g =>
  match Nat.beq g f with
  | true => some (.old s)
  | false => S g
def moreP (S : FuncId → Option SumK) (f : FuncId) (s : List LV → List (Nat × LV) → Option Tch) : FuncId → Option SumK := fun g =>
  match Nat.beq g f with
  | true => some (.peek s)
  | false => S g
theorem Sound.moreP (h : Sound P S) {f : FuncId} {s : List LV → List (Nat × LV) → Option Tch} (hs : PeekOK P f s) : Sound P (Go.Lr.moreP S f s) := by
  refine ⟨fun g t hg => ?_, h.mix, h.ng⟩
  unfold Go.Lr.moreP at hg
  split at hg
  · rename_i he
    cases hg
    rw [nbeq] at he
    have : g = f := by simpa using he
    subst this
    exact hs
  · exact h.sums g t hg
theorem Sound.more (h : Sound P S) {f : FuncId} {s : Sum} (hs : SumOK P f s) : Sound P (Go.Lr.more S f s) := by
  refine ⟨fun g t hg => ?_, h.mix, h.ng⟩
  unfold Go.Lr.more at hg
  split at hg
  · rename_i he
    cases hg
    rw [nbeq] at he
    have : g = f := by simpa using he
    subst this
    exact hs
  · exact h.sums g t hg
theorem Sound.none (hmix : P.follows .mixedOrders = true) (hng : ∀ (f : FuncId) (fn : Func), P.funcs[f]? = some fn → fn.name ≠ "runtime.NumGoroutine") : Sound P (fun _ => Option.none) :=
  ⟨(fun f s h => by cases h), hmix, hng⟩
theorem law_of_run (hs : Sound P S) {n : Nat} {f : FuncId} {args : List LV} {dec : List (Option Bool)} {v : LV} {cs : List (Bool × Bool)} (h : (runF P S z n f args [] 0 dec).map (fun r => (r.1, r.2.2.2)) = some (v, cs))
    (hc : ∀ c ∈ cs, c.1 = c.2) (ha : plainVs args = true) (hv : v.ok noP = true) (w : World) :
    Calls P f (args.map (LV.den E0)).toArray w fun e w' => e = .returned (v.den E0) ∧ Below w.heap.size w w' := by
  cases hr : runF P S z n f args [] 0 dec with
  | none => rw [hr] at h; cases h
  | some q =>
    obtain ⟨v', m', nb', cs'⟩ := q
    rw [hr] at h
    cases h
    exact calls_of_run hs hr hc ha hv w
end
end Go.Lr

/- The local evaluator: contracts of methods on a flag, off their runs. -/
namespace Go.Lr
open Go.RowKit
def A0 : LV := .v (.one (.ptr 0 0))
section
variable {P : Program} {S : FuncId → Option SumK} {z : Md}
theorem acc_run (hs : Sound P S) {n : Nat} {f : FuncId} {args : List LV} {dec : List (Option Bool)} {v : LV} {cs : List (Bool × Bool)} {ty : TypeId} {h h' : Bool}
    (hrun : (runF P S z n f (A0 :: args) [(0, flag ty h)] 1 dec).map (fun r => (r.1, getM r.2.1 0, r.2.2.2)) = some (v, some (flag ty h'), cs)) (hc : ∀ c ∈ cs, c.1 = c.2) (ha : plainVs args = true) (hv : v.ok noP = true)
    (w : World) (b : Loc) (hb : w.heap[b.blk]? = some (flagW b ty h)) :
    Calls P f (b.ptr :: args.map (LV.den E0)).toArray w fun e w' => e = .returned (v.den E0) ∧ Turned b.blk (flagW b ty h') w w' := by
  cases hr : runF P S z n f (A0 :: args) [(0, flag ty h)] 1 dec with
  | none => rw [hr] at hrun; cases hrun
  | some q =>
    obtain ⟨v', m', nb', cs'⟩ := q
    rw [hr] at hrun
    simp only [Option.map_some, Option.some.injEq, Prod.mk.injEq] at hrun
    obtain ⟨rfl, hm, rfl⟩ := hrun
    exact acc_of_run hs hr hm hc ha hv w b hb
theorem accSum_run (hs : Sound P S) {f : FuncId} (ho : Own P f) {ty : TypeId} {F : List LV → Bool → Option (LV × Bool × List (Bool × Bool))}
    (h : ∀ args hb v h' cs, F args hb = some (v, h', cs) → (∀ c ∈ cs, c.1 = c.2) → v.ok noP = true ∧ ∃ (n : Nat) (dec : List (Option Bool)) (cs' : List (Bool × Bool)),
      (runF P S z n f (A0 :: args) [(0, flag ty hb)] 1 dec).map (fun r => (r.1, getM r.2.1 0, r.2.2.2)) = some (v, some (flag ty h'), cs') ∧ ∀ c ∈ cs', c.1 = c.2) : SumOK P f (accSum ty F) := by
  refine accSum_ok fun args hb v h' cs hF hc hp w b hbk => ?_
  obtain ⟨hv, n, dec, cs', hrun, hc'⟩ := h args hb v h' cs hF hc
  exact callOK_of ho (acc_run hs hrun hc' hp hv w b hbk)
theorem pureSum_run (hs : Sound P S) {f : FuncId} (ho : Own P f) {F : List LV → Option (LV × List (Bool × Bool))}
    (h : ∀ args v cs, F args = some (v, cs) → (∀ c ∈ cs, c.1 = c.2) → ∃ (n : Nat) (dec : List (Option Bool)) (cs' : List (Bool × Bool)),
      (runF P S z n f args [] 0 dec).map (fun r => (r.1, r.2.2.2)) = some (v, cs') ∧ ∀ c ∈ cs', c.1 = c.2) : SumOK P f (pureSum F) := by
  refine pureSum_ok' fun args v cs hF hc hp hv w => ?_
  obtain ⟨n, dec, cs', hrun, hc'⟩ := h args v cs hF hc
  exact callOK_of ho (law_of_run hs hrun hc' hp hv w)
end
end Go.Lr

/- Small laws for the printed proofs. -/
namespace Go.Lr
theorem ae_nil : ∀ c ∈ ([] : List (Bool × Bool)), c.1 = c.2 := fun _ h => nomatch h
theorem ae_cons {a b : Bool} {l : List (Bool × Bool)} (h : a = b) (hl : ∀ c ∈ l, c.1 = c.2) : ∀ d ∈ (a, b) :: l, d.1 = d.2 := fun d hd => by
  cases hd with
  | head => exact h
  | tail _ h => exact hl d h
theorem hd_of {a b : Bool} {l : List (Bool × Bool)} (h : ∀ c ∈ (a, b) :: l, c.1 = c.2) : a = b := h (a, b) (.head _)
theorem tl_of {c : Bool × Bool} {l : List (Bool × Bool)} (h : ∀ d ∈ c :: l, d.1 = d.2) : ∀ d ∈ l, d.1 = d.2 := fun d hd => h d (.tail _ hd)
theorem bool_cases (b : Bool) : b = true ∨ b = false := by cases b <;> simp
theorem cond_t {α : Type} {c : Bool} {a b : α} (h : c = true) : (bif c then a else b) = a := by subst h; rfl
theorem cond_f {α : Type} {c : Bool} {a b : α} (h : c = false) : (bif c then a else b) = b := by subst h; rfl
end Go.Lr

/- The local evaluator: a summary told in other words. -/
set_option linter.unusedVariables false
set_option linter.unusedSimpArgs false
namespace Go.Lr
open Go.RowKit
def accT (F : List LV → Bool → Option (LV × Bool × List (Bool × Bool))) (c o : Nat) (rest : List LV) : Tch := ⟨[], [c], fun _ wB _ => match wB with
  | [⟨t, (0, 0), es, l⟩] => match atL l o with
    | some (.bool h) => match F rest h with
      | some (v, h', cs) => match v.ok noP with
        | true => some ⟨v, [⟨t, (0, 0), es, l.set o (.bool h')⟩], [], cs⟩
        | false => none
      | none => none
    | _ => none
  | _ => none⟩
section
variable {P : Program} {S : FuncId → Option SumK}
theorem SumOK.pure_re {f : FuncId} {F F' : List LV → Option (LV × List (Bool × Bool))} (h : SumOK P f (pureSum F))
    (hi : ∀ args v cs, F' args = some (v, cs) → (∀ c ∈ cs, c.1 = c.2) → ∃ cs', F args = some (v, cs') ∧ ∀ c ∈ cs', c.1 = c.2) : SumOK P f (pureSum F') := by
  intro args t g nb p rdB wrB ans ws E w hs hr hw hnd hgo hz hc hrel hg hargs hn
  unfold pureSum at hs
  split at hs
  · rename_i hp
    split at hs
    · rename_i v cs hF
      split at hs
      · rename_i hv
        cases hs
        simp only [Option.some.injEq] at hgo
        subst hgo
        obtain ⟨cs', h1, h2⟩ := hi args v cs hF hc
        refine h args ⟨[], [], fun _ _ _ => some ⟨v, [], [], cs'⟩⟩ g nb p rdB wrB ⟨v, [], [], cs'⟩ ws E w ?_ hr hw hnd rfl hz h2 hrel hg hargs hn
        unfold pureSum
        rw [hp, h1]
        simp only [hv]
      · cases hs
    · cases hs
  · cases hs
theorem SumOK.acc_re {f : FuncId} {ty : TypeId} {F F' : List LV → Bool → Option (LV × Bool × List (Bool × Bool))} (h : SumOK P f (accSum ty F))
    (hi : ∀ args hb v h' cs, F' args hb = some (v, h', cs) → (∀ c ∈ cs, c.1 = c.2) → ∃ cs', F args hb = some (v, h', cs') ∧ ∀ c ∈ cs', c.1 = c.2) : SumOK P f (accSum ty F') := by
  intro args t g nb p rdB wrB ans ws E w hs hr hw hnd hgo hz hc hrel hg hargs hn
  unfold accSum at hs
  split at hs
  · rename_i c o rest
    split at hs
    · rename_i hp
      cases hs
      simp only at hgo hw hr hz
      split at hgo
      · rename_i t' es l
        split at hgo
        · rename_i hb hat
          split at hgo
          · rename_i v h' cs hF
            split at hgo
            · rename_i hv
              cases hgo
              obtain ⟨cs', h1, h2⟩ := hi rest hb v h' cs hF hc
              refine h (.v (.one (.ptr c o)) :: rest) (accT F c o rest) g nb p rdB _ ⟨v, [⟨t', (0, 0), es, l.set o (.bool h')⟩], [], cs'⟩ ws E w (by unfold accSum; simp only [hp]; rfl) hr hw hnd ?_ hz h2 hrel hg hargs hn
              simp only [accT, hat, h1, hv]
            · cases hgo
          · cases hgo
        · cases hgo
      · cases hgo
    · cases hs
  · cases hs
end
theorem all_tt {b : Bool} {l : List (Bool × Bool)} : (∀ c ∈ (b, true) :: l, c.1 = c.2) ↔ b = true ∧ ∀ c ∈ l, c.1 = c.2 := by simp
theorem all_ff {b : Bool} {l : List (Bool × Bool)} : (∀ c ∈ (b, false) :: l, c.1 = c.2) ↔ b = false ∧ ∀ c ∈ l, c.1 = c.2 := by simp
end Go.Lr
