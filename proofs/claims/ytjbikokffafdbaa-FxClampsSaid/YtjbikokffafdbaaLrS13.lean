/- The local evaluator is sound: what it tells of a body holds of the model's. -/
import Derived.Test.YtjbikokffafdbaaLrS12
namespace Go.Lr
open Go.RowKit

theorem getM_dropM (nb : Nat) : ∀ (m : Mem) (i : Nat), getM (dropM nb m) i = if i < nb then getM m i else none
  | [], i => by simp [dropM, getM]
  | (j, b) :: m, i => by
    simp only [dropM, nblt]
    by_cases hj : j < nb
    · simp only [hj, decide_true]
      rw [getM_cons, getM_cons, getM_dropM nb m i]
      by_cases hi : i = j
      · subst hi; simp [hj]
      · simp [hi]
    · simp only [hj, decide_false]
      rw [getM_cons, getM_dropM nb m i]
      by_cases hi : i < nb
      · rw [if_pos hi, if_pos hi, if_neg (by omega)]
      · rw [if_neg hi, if_neg hi]

theorem uniq_dropM (nb : Nat) : ∀ (m : Mem), uniq m → uniq (dropM nb m)
  | [], _ => trivial
  | (j, b) :: m, h => by
    simp only [dropM]
    split
    · refine ⟨?_, uniq_dropM nb m h.2⟩
      rw [getM_dropM, h.1]
      simp
    · exact uniq_dropM nb m h.2

theorem backM_spec {β : Type} {y : Bool} {nb : Nat} {v : LV} {m : Mem} {k : Mem → β} {r : β} (h : backM y nb v m k = r) : ∃ m', k m' = r ∧ (uniq m → uniq m') ∧ ∀ i b, getM m' i = some b → getM m i = some b := by
  have hm : k m = r → ∃ m', k m' = r ∧ (uniq m → uniq m') ∧ ∀ i b, getM m' i = some b → getM m i = some b := fun h => ⟨m, h, id, fun _ _ h => h⟩
  unfold backM at h
  split at h
  · exact hm h
  · split at h
    · rw [forceL_eq] at h
      refine ⟨_, h, uniq_dropM nb m, fun i b hb => ?_⟩
      rw [getM_dropM] at hb
      split at hb
      · exact hb
      · cases hb
    · exact hm h

theorem Rel.sub {E : Env} {g g' : Nat → Option Blk} {w : World} (h : Rel E g w) (hs : ∀ i b, g' i = some b → g i = some b) : Rel E g' w := by
  have hsome : ∀ i, (g' i).isSome → (g i).isSome := by
    intro i hi
    obtain ⟨b, hb⟩ := Option.isSome_iff_exists.1 hi
    simp [hs i b hb]
  exact ⟨fun i b hb => h.blk i b (hs i b hb), fun i j hi hj he => h.inj i j (hsome i hi) (hsome j hj) he⟩

section
variable {P : Program} {S : FuncId → Option Sum} {z : Md}

def SC (P : Program) (S : FuncId → Option Sum) (z : Md) (n : Nat) : Prop :=
  ∀ (c : Code) (s : St) (out : Out) (s' : St), exec P S z n (.code c) s = some (out, s') → s.sz ≤ 60000 → StOK s →
    ∃ e, out = .ex e ∧ (Good s' → Good s) ∧ StOK s' ∧ s'.sz = s.sz ∧ s.nb ≤ s'.nb ∧
      (Good s' → ∀ (E : Env) (a : Act) (w : World), R E s a w → ∀ Q : Exit → Act → World → Prop, (∀ E' a' w', R E' s' a' w' → Ext w E s w' E' s' → Q e.to a' w') → c.wp P Q a w)

def SL (P : Program) (S : FuncId → Option Sum) (z : Md) (n : Nat) : Prop :=
  ∀ (c : Code) (s : St) (out : Out) (s' : St), exec P S z n (.code (.loop c)) s = some (out, s') → s.sz ≤ 60000 → StOK s →
    ∃ e m, out = .ex e ∧ (Good s' → Good s) ∧ StOK s' ∧ s'.sz = s.sz ∧ s.nb ≤ s'.nb ∧
      (Good s' → ∀ (E : Env) (a : Act) (w : World), R E s a w → ∀ Q : Exit → Act → World → Prop, (∀ E' a' w', R E' s' a' w' → Ext w E s w' E' s' → Q e.to a' w') → Code.rounds P c Q m a w)

def SO (P : Program) (S : FuncId → Option Sum) (z : Md) (n : Nat) : Prop :=
  ∀ (all l : List Oper) (s : St) (out : Out) (s' : St), exec P S z n (.ops all l) s = some (out, s') → s.sz ≤ 60000 → StOK s →
    out = .ex .normal ∧ (Good s' → Good s) ∧ StOK s' ∧ s'.sz = s.sz ∧ s.nb ≤ s'.nb ∧
      (Good s' → ∀ (ops : Array Oper) (k : Nat), ops.toList = all → all.drop k = l → ∀ (E : Env) (a : Act) (w : World), R E s a w → ∀ Q : Exit → Act → World → Prop,
        (∀ E' a' w', R E' s' a' w' → Ext w E s w' E' s' → Q .normal a' w') → wpOps P ops Q (List.range' k l.length) a w)

def SB (P : Program) (S : FuncId → Option Sum) (z : Md) (n : Nat) : Prop :=
  ∀ (f : FuncId) (args : List LV) (s : St) (out : Out) (s' : St), exec P S z n (.body f args) s = some (out, s') → (∀ i b, getM s.mem i = some b → i < s.nb ∧ okL (below s.nb) b.cells = true) → uniq s.mem →
    (∀ v ∈ args, v.ok (below s.nb) = true) →
    ∃ v, out = .val v ∧ (Good s' → Good s) ∧ s.nb ≤ s'.nb ∧ (∀ i b, getM s'.mem i = some b → i < s'.nb ∧ okL (below s'.nb) b.cells = true) ∧ uniq s'.mem ∧ v.ok (below s'.nb) = true ∧
      (∃ fn, P.funcs[f]? = some fn ∧ fn.body.isSome) ∧
      (Good s' → ∀ (E : Env) (w : World), MRel E s w → Calls P f (args.map (LV.den E)).toArray w fun e w' => ∃ E', e = .returned (v.den E') ∧ MRel E' s' w' ∧ Ext w E s w' E' s')

theorem below_mono {n m : Nat} (h : n ≤ m) : ∀ i, below n i = true → below m i = true := fun i hi => by
  simp only [below, decide_eq_true_eq] at hi ⊢
  omega

theorem body_same {n : Nat} {f : FuncId} {args : List LV} {s s2 : St} {out : Out} (h : exec P S z n (.body f args) s = some (out, s2)) : s2.sz = s.sz ∧ s2.tm = s.tm := by
  cases n with
  | zero => simp [exec] at h
  | succ n =>
    simp only [exec, step1, bodyStep] at h
    split at h
    · split at h
      · split at h
        · rw [argsTK_eq] at h
          unfold endStep at h
          split at h
          · split at h
            · cases h; exact ⟨rfl, rfl⟩
            · cases h
          · split at h
            · cases h; exact ⟨rfl, rfl⟩
            · cases h
          · cases h
        · cases h
      · cases h
    · cases h

/-- One operation of the text's order that is not walked into. -/
theorem app_step (hB : BinOK P) (hS : AllOK P S) {all : List Oper} {s : St} {o : Oper} {gd pd : Option Bool} {d : Dl} {cs : List (Bool × Bool)} {dec : List (Option Bool)} {β : Type} {k : St → Option β} {r : β}
    (hd : stepD P S z all (getT s.tm) (getM s.mem) s.nb gd pd o = some (d, cs)) (h : appK z s o.dst d dec cs k = some r) (hsz : s.sz ≤ 60000) (hs : StOK s) :
    ∃ s1, k s1 = some r ∧ s1.sz = s.sz ∧ s.nb ≤ s1.nb ∧ StOK s1 ∧ (Good s1 → Good s) ∧
      (Good s1 → ∀ (ops : Array Oper) (i : Nat), ops.toList = all → ops[i]? = some o → ∀ (E : Env) (a : Act) (w : World), R E s a w → ∀ (K : Act → World → Prop) (Q : Exit → Act → World → Prop),
        (∀ E' a' w', R E' s1 a' w' → Ext w E s w' E' s1 → K a' w') → wpOp P ops Q i K a w) := by
  obtain ⟨s1, h1, h2, h3, h4, h5, h6, h7, _⟩ := appK_spec (a := { tmps := Array.replicate s.sz undef, defers := [] }) (by simp) hsz h
  have hok := stepD_ok (fun t => hs.okT t) hs.okM' hd
  have hs1 : StOK s1 := hs.app hok h5 h6 h7.1
  refine ⟨s1, h1, h4, by omega, hs1, fun hg => (h2 hg).2.2, fun hg ops i hall hi E a w hr K Q hk => ?_⟩
  subst hall
  obtain ⟨c1, c2, _⟩ := h2 hg
  refine stepD_wp hB hS hi hr.tm (fun t => hs.okT t) hr.m.rel hs.okM' (fun j h1 _ => by simp [below, h1]) hd c1 c2 fun E' w' hp => ?_
  have hag : ∀ i, below s.nb i = true → E' i = E i := fun j hj => hp.agree j (.inl (by simpa [below] using hj))
  obtain ⟨tm1, sz1, mem1, nb1, dec1, cs1⟩ := s1
  simp only at h4 h5 h6
  subst h5 h6
  obtain ⟨m1, m2⟩ := MRel.post (tm := tm1) (sz := sz1) (dec := dec1) (cs := cs1) hr.m hok hp
  refine hk E' _ w' ⟨?_, by rw [h4]; exact hsz, fun t => ?_, ?_, hs1.okT, m1⟩ m2
  · rw [h4, ← hr.size]
    cases hd : o.dst <;> simp [Act.put]
  · have ht : ∀ t : Nat, a.tmps.getD t undef = (getT s.tm t).den E' := fun t => by rw [hr.tm t, LV.den_congr hag (hs.okT t)]
    have h8 : getT tm1 t = updτ (getT s.tm) o.dst d.val t := congrFun h7.1 t
    show _ = (getT tm1 t).den E'
    rw [h8]
    unfold updτ
    cases hd : o.dst with
    | none => exact ht t
    | some e =>
      simp only [Act.put]
      rw [getD_set a.tmps e t _ (by rw [hr.size]; exact h7.2 e hd)]
      by_cases hte : t = e
      · simp [hte]
      · rw [if_neg hte, if_neg hte]; exact ht t
  · cases hd : o.dst <;> exact hr.defers

theorem SO_succ (hB : BinOK P) (hS : AllOK P S) (hNG : ∀ (f : FuncId) (fn : Func), P.funcs[f]? = some fn → fn.name ≠ "runtime.NumGoroutine") {n : Nat} (ihO : SO P S z n) (ihB : SB P S z n) : SO P S z (n + 1) := by
  intro all l s out s' h hsz hs
  simp only [exec, step1] at h
  cases l with
  | nil =>
    simp only [opsStep] at h
    cases h
    exact ⟨rfl, id, hs, rfl, Nat.le_refl _, fun _ ops k _ _ E a w hr Q hQ => by simpa [wpOps] using hQ E a w hr (.refl _ _ _)⟩
  | cons o rest =>
    simp only [opsStep] at h
    generalize hdec : decs z o s.dec = q at h
    obtain ⟨gd, pd, dec⟩ := q
    simp only at h
    have hnext : ∀ (ops : Array Oper) (k : Nat), ops.toList = all → all.drop k = o :: rest → ops[k]? = some o ∧ all.drop (k + 1) = rest := by
      intro ops k hall hdrop
      constructor
      · have : (all.drop k)[0]? = some o := by rw [hdrop]; rfl
        rw [List.getElem?_drop] at this
        rw [← hall] at this
        simpa using this
      · have := congrArg List.tail hdrop
        simpa [List.tail_drop] using this
    -- the step that the evaluator takes by itself
    have plain : ∀ (d : Dl) (cs : List (Bool × Bool)), stepD P S z all (getT s.tm) (getM s.mem) s.nb gd pd o = some (d, cs) → (appK z s o.dst d dec cs fun s' => exec P S z n (.ops all rest) s') = some (out, s') →
        out = .ex .normal ∧ (Good s' → Good s) ∧ StOK s' ∧ s'.sz = s.sz ∧ s.nb ≤ s'.nb ∧
          (Good s' → ∀ (ops : Array Oper) (k : Nat), ops.toList = all → all.drop k = o :: rest → ∀ (E : Env) (a : Act) (w : World), R E s a w → ∀ Q : Exit → Act → World → Prop,
            (∀ E' a' w', R E' s' a' w' → Ext w E s w' E' s' → Q .normal a' w') → wpOps P ops Q (List.range' k (o :: rest).length) a w) := by
      intro d cs hd hk
      obtain ⟨s1, h1, h2, h3, h4, h5, h6⟩ := app_step (z := z) hB hS hd hk hsz hs
      obtain ⟨e1, e2, e3, e4, e5, e6⟩ := ihO all rest s1 out s' h1 (by omega) h4
      refine ⟨e1, fun hg => h5 (e2 hg), e3, e4.trans h2, Nat.le_trans h3 e5, fun hg ops k hall hdrop E a w hr Q hQ => ?_⟩
      rw [List.length_cons, List.range'_succ, wpOps_cons]
      obtain ⟨hk', hdrop'⟩ := hnext ops k hall hdrop
      refine h6 (e2 hg) ops k hall hk' E a w hr _ Q fun E' a' w' hr' hx => ?_
      exact e6 hg ops (k + 1) hall hdrop' E' a' w' hr' Q fun E'' a'' w'' hr'' hx' => hQ E'' a'' w'' hr'' (hx.trans hx')
    split at h
    · rename_i cs hw
      exact plain skipD cs (by unfold stepD; rw [hw]) h
    · rename_i cs hw
      unfold doStep at h
      split at h
      · rename_i f args hinl
        -- a call that is walked into
        have hc : ∃ c, o.op = .call c ∧ callee (getT s.tm) c = some (f, args) := by
          unfold inlined at hinl
          split at hinl
          · rename_i c ho
            refine ⟨c, ho, ?_⟩
            split at hinl
            · rename_i f' args' hcal
              split at hinl
              · cases hinl
              · cases hinl; exact hcal
            · cases hinl
          · cases hinl
        obtain ⟨c, ho, hcal⟩ := hc
        obtain ⟨c1, h1, h2⟩ := csK_spec h
        unfold inlStep at h1
        split at h1
        · rename_i v s2 hbody
          rw [forceV_eq] at h1
          have hargs : ∀ u ∈ args, u.ok (below s.nb) = true := callee_ok (fun t => hs.okT t) hcal
          obtain ⟨hsz2, htm2⟩ := body_same hbody
          simp only at hsz2 htm2
          obtain ⟨tm, h3, ⟨htm, hdst⟩, _⟩ := put_tm (a := { tmps := Array.replicate s2.sz undef, defers := [] }) (by simp) (by omega) h1
          obtain ⟨m', h4, hum, hsub⟩ := backM_spec h3
          obtain ⟨v', b1, b2, b3, b4, b5, b6, ⟨fn, b7, b8⟩, b9⟩ := ihB f args _ _ s2 hbody hs.okM hs.uq hargs
          cases b1
          simp only at b3
          have hs3 : StOK ⟨tm, s2.sz, m', s2.nb, s2.dec, s2.cs⟩ := by
            refine ⟨fun t => ?_, fun i b hb => b4 i b (hsub i b hb), hum b5⟩
            show (getT tm t).ok (below s2.nb) = true
            rw [htm]
            unfold updτ
            rw [htm2]
            cases hd : o.dst with
            | none => exact LV.ok_mono (below_mono b3) (hs.okT t)
            | some e =>
              by_cases hte : t = e
              · simp only [hte, if_true]; exact b6
              · simp only [hte, if_false]; exact LV.ok_mono (below_mono b3) (hs.okT t)
          obtain ⟨e1, e2, e3, e4, e5, e6⟩ := ihO all rest _ out s' h4 (by show s2.sz ≤ 60000; omega) hs3
          simp only at e4 e5
          refine ⟨e1, fun hg => ?_, e3, e4.trans hsz2, Nat.le_trans b3 e5, fun hg ops k hall hdrop E a w hr Q hQ => ?_⟩
          · exact (h2 (b2 (e2 hg))).2
          · rw [List.length_cons, List.range'_succ, wpOps_cons]
            obtain ⟨hk', hdrop'⟩ := hnext ops k hall hdrop
            have hg2 : Good s2 := e2 hg
            have hcs := (h2 (b2 hg2)).1
            unfold wpOp
            simp only [hk']
            subst hall
            rw [wants_spec (a := a) (E := E) hr.tm hw hcs]
            simp only [if_true]
            refine .inl (CallOK.wp (R := fun v'' w' => ∃ E', v'' = v.den E' ∧ MRel E' s2 w' ∧ Ext w E ⟨s.tm, s.sz, s.mem, s.nb, dec, c1⟩ w' E' s2) ho (eval_tmp hr.tm) hcal (.inl ⟨fn, b7, hNG f fn b7, b8, ?_⟩) ?_)
            · refine (b9 hg2 E w ⟨hr.m.rel, hr.m.okM, hr.m.uq⟩).mono fun e w' he => ?_
              obtain ⟨E', h5, h6, h7⟩ := he
              exact ⟨_, h5, E', rfl, h6, h7⟩
            · rintro v'' w' ⟨E', rfl, h6, h7⟩
              have hag : ∀ i, below s.nb i = true → E' i = E i := fun j hj => h7.agree j (by simpa [below] using hj)
              have ht : ∀ t : Nat, a.tmps.getD t undef = (getT s.tm t).den E' := fun t => by rw [hr.tm t, LV.den_congr hag (hs.okT t)]
              have hr3 : R E' ⟨tm, s2.sz, m', s2.nb, s2.dec, s2.cs⟩ (a.put o.dst (v.den E')) w' := by
                refine ⟨?_, by show s2.sz ≤ 60000; omega, fun t => ?_, ?_, hs3.okT, ⟨h6.rel.sub hsub, hs3.okM, hs3.uq⟩⟩
                · show _ = s2.sz
                  rw [hsz2, ← hr.size]
                  cases hd : o.dst <;> simp [Act.put]
                · show _ = (getT tm t).den E'
                  rw [htm]
                  unfold updτ
                  rw [htm2]
                  cases hd : o.dst with
                  | none => exact ht t
                  | some e =>
                    simp only [Act.put]
                    rw [getD_set a.tmps e t _ (by rw [hr.size, ← hsz2]; exact hdst e hd)]
                    by_cases hte : t = e
                    · simp [hte]
                    · rw [if_neg hte, if_neg hte]; exact ht t
                · cases hd : o.dst <;> exact hr.defers
              refine e6 hg ops (k + 1) rfl hdrop' E' _ w' hr3 Q fun E'' a'' w'' hr'' hx' => ?_
              refine hQ E'' a'' w'' hr'' (Ext.trans (s1 := ⟨tm, s2.sz, m', s2.nb, s2.dec, s2.cs⟩) ⟨h7.nb, h7.agree, h7.os, h7.tape, h7.output, h7.size, h7.frame, fun i hi => h7.src i ?_⟩ hx')
              obtain ⟨b, hb⟩ := Option.isSome_iff_exists.1 hi
              simp [hsub i b hb]
        · cases h1
      · rename_i hinl
        split at h
        · rename_i d hd
          exact plain d cs (by unfold stepD; rw [hw]; simp only [hd]) h
        · cases h
    · cases h

theorem SB_succ {n : Nat} (ihC : SC P S z n) : SB P S z (n + 1) := by
  intro f args s out s' h hokM huq hargs
  simp only [exec, step1, bodyStep] at h
  split at h
  · rename_i fn hf
    split at h
    · rename_i c hc
      split at h
      · rename_i hl1 hl2
        rw [nble, lenL_eq] at hl1
        rw [nble] at hl2
        have hl1' : args.length ≤ fn.ntmps := by simpa using hl1
        have hl2' : fn.ntmps ≤ 60000 := by simpa using hl2
        rw [argsTK_eq] at h
        have hget : ∀ j, getT (argsT .nil 0 args) j = args.getD j undefL := by
          intro j
          rw [getT_argsT args .nil 0 j (by omega)]
          by_cases hj : j < args.length
          · rw [if_pos (by omega)]; simp
          · rw [if_neg (by omega), getT_nil]
            simp [List.getD, List.getElem?_eq_none (Nat.le_of_not_lt hj)]
        have hs0 : StOK ⟨argsT .nil 0 args, fn.ntmps, s.mem, s.nb, s.dec, s.cs⟩ := by
          refine ⟨fun t => ?_, hokM, huq⟩
          show (getT (argsT .nil 0 args) t).ok (below s.nb) = true
          rw [hget]
          by_cases ht : t < args.length
          · simp only [List.getD, List.getElem?_eq_getElem ht, Option.getD_some]
            exact hargs _ (List.getElem_mem ht)
          · simp only [List.getD, List.getElem?_eq_none (Nat.le_of_not_lt ht), Option.getD_none]
            rfl
        -- what is common to both ways of ending
        have key : ∀ (e : Ex) (s1 : St) (v : LV), (e = .normal ∨ e = .ret) → exec P S z n (.code c) ⟨argsT .nil 0 args, fn.ntmps, s.mem, s.nb, s.dec, s.cs⟩ = some (.ex e, s1) →
            resultsD P fn.results.toList (getT s1.tm) s1.mem = some v → out = .val v → s' = ⟨s.tm, s.sz, s1.mem, s1.nb, s1.dec, s1.cs⟩ →
            ∃ v, out = .val v ∧ (Good s' → Good s) ∧ s.nb ≤ s'.nb ∧ (∀ i b, getM s'.mem i = some b → i < s'.nb ∧ okL (below s'.nb) b.cells = true) ∧ uniq s'.mem ∧ v.ok (below s'.nb) = true ∧
              (∃ fn, P.funcs[f]? = some fn ∧ fn.body.isSome) ∧
              (Good s' → ∀ (E : Env) (w : World), MRel E s w → Calls P f (args.map (LV.den E)).toArray w fun e w' => ∃ E', e = .returned (v.den E') ∧ MRel E' s' w' ∧ Ext w E s w' E' s') := by
          intro e s1 v he hex hres hout hs'
          obtain ⟨e', q1, q2, q3, q4, q5, q6⟩ := ihC c _ _ s1 hex hl2' hs0
          cases q1
          subst hs'
          simp only at q5
          refine ⟨v, hout, fun hg => q2 hg, q5, q3.okM, q3.uq, resultsD_ok (fun t => q3.okT t) q3.okM' hres, ⟨fn, hf, by simp [hc]⟩, fun hg E w hm => ?_⟩
          refine calls_of_wp hf hc (q6 hg E _ w ⟨?_, hl2', fun t => ?_, rfl, hs0.okT, ⟨hm.rel, hm.okM, hm.uq⟩⟩ _ fun E' a' w' hr' hx' => ?_)
          · simp; omega
          · show _ = (getT (argsT .nil 0 args) t).den E
            rw [hget]
            simp only [Array.getD_eq_getD_getElem?, Array.getElem?_append, List.size_toArray, List.length_map]
            by_cases ht : t < args.length
            · rw [if_pos ht]
              simp [List.getD, List.getElem?_eq_getElem ht]
            · rw [if_neg ht]
              simp only [List.getD, List.getElem?_eq_none (Nat.le_of_not_lt ht), Option.getD_none]
              by_cases ht2 : t - args.length < fn.ntmps - args.length
              · simp [ht2]; rfl
              · simp [ht2]; rfl
          · have hpost : bodyPost P fn (fun e w' => ∃ E', e = .returned (v.den E') ∧ MRel E' ⟨s.tm, s.sz, s1.mem, s1.nb, s1.dec, s1.cs⟩ w' ∧ Ext w E s w' E' ⟨s.tm, s.sz, s1.mem, s1.nb, s1.dec, s1.cs⟩) .ret a' w' :=
              ⟨hr'.defers, v.den E', resultsD_spec hr'.m.rel hr'.tm hres, E', rfl, ⟨hr'.m.rel, hr'.m.okM, hr'.m.uq⟩, ⟨hx'.nb, hx'.agree, hx'.os, hx'.tape, hx'.output, hx'.size, hx'.frame, hx'.src⟩⟩
            rcases he with rfl | rfl
            · exact hpost
            · exact hpost
        unfold endStep at h
        split at h
        · rename_i s1 hex
          split at h
          · rename_i v hres
            cases h
            exact key .normal s1 v (.inl rfl) hex hres rfl rfl
          · cases h
        · rename_i s1 hex
          split at h
          · rename_i v hres
            cases h
            exact key .ret s1 v (.inr rfl) hex hres rfl rfl
          · cases h
        · cases h
      · cases h
    · cases h
  · cases h

theorem SC_succ (hB : BinOK P) (hS : AllOK P S) (hmix : P.follows .mixedOrders = true) {n : Nat} (ihC : SC P S z n) (ihO : SO P S z n) (ihL : SL P S z (n + 1)) : SC P S z (n + 1) := by
  intro c s out s' h hsz hs
  have h0 := h
  simp only [exec, step1] at h
  cases c <;> simp only [codeStep, reduceCtorEq] at h
  case skip =>
    cases h
    exact ⟨.normal, rfl, id, hs, rfl, Nat.le_refl _, fun _ E a w hr Q hQ => wp_skip (hQ E a w hr (.refl _ _ _))⟩
  case region id ops draw =>
    cases draw with
    | false =>
      simp only at h
      obtain ⟨e1, e2, e3, e4, e5, e6⟩ := ihO _ _ s out s' h hsz hs
      refine ⟨.normal, e1, e2, e3, e4, e5, fun hg E a w hr Q hQ => wp_region ?_⟩
      have := e6 hg ops 0 rfl rfl E a w hr Q hQ
      rw [List.range_eq_range']
      simpa using this
    | true =>
      simp only at h
      unfold drawStep at h
      split at h
      · rename_i s1 hd
        cases h
        obtain ⟨e2, e3, e4, e5, e6⟩ := drawRun_wp hB hS hmix hd hsz hs
        exact ⟨.normal, rfl, e2, e3, e4, e5, fun hg E a w hr Q hQ => e6 hg id E a w hr Q hQ⟩
      · cases h
  case seq x y =>
    cases hx : exec P S z n (.code x) s with
    | none => rw [hx] at h; simp [seqStep] at h
    | some q =>
      obtain ⟨o1, s1⟩ := q
      rw [hx] at h
      obtain ⟨e, e1, e2, e3, e4, e5, e6⟩ := ihC x s o1 s1 hx hsz hs
      subst e1
      have other : e ≠ .normal → seqStep (exec P S z n) y (some (Out.ex e, s1)) = some (Out.ex e, s1) := by
        intro hne
        cases e <;> first | exact absurd rfl hne | rfl
      by_cases hne : e = .normal
      · subst hne
        simp only [seqStep] at h
        obtain ⟨e', f1, f2, f3, f4, f5, f6⟩ := ihC y s1 out s' h (by omega) e3
        refine ⟨e', f1, fun hg => e2 (f2 hg), f3, f4.trans e4, Nat.le_trans e5 f5, fun hg E a w hr Q hQ => wp_seq ?_⟩
        refine e6 (f2 hg) E a w hr _ fun E' a' w' hr' hx' => ?_
        exact f6 hg E' a' w' hr' Q fun E'' a'' w'' hr'' hx'' => hQ E'' a'' w'' hr'' (hx'.trans hx'')
      · rw [other hne] at h
        cases h
        refine ⟨e, rfl, e2, e3, e4, e5, fun hg E a w hr Q hQ => wp_seq ?_⟩
        refine e6 hg E a w hr _ fun E' a' w' hr' hx' => ?_
        have := hQ E' a' w' hr' hx'
        cases e <;> first | exact absurd rfl hne | exact this
  case cond c x y =>
    unfold condStep at h
    split at h
    · rename_i t ht
      generalize hq : takeD s.dec = q at h
      obtain ⟨d, dec⟩ := q
      simp only at h
      split at h
      · rename_i cs hb
        obtain ⟨c1, h1, h2⟩ := csK_spec h
        have hs1 : StOK ⟨s.tm, s.sz, s.mem, s.nb, dec, c1⟩ := ⟨hs.okT, hs.okM, hs.uq⟩
        obtain ⟨e, e1, e2, e3, e4, e5, e6⟩ := ihC x _ out s' h1 hsz hs1
        refine ⟨e, e1, fun hg => (h2 (e2 hg)).2, e3, e4, e5, fun hg E a w hr Q hQ => ?_⟩
        have htt := isTrue_spec hb (h2 (e2 hg)).1
        subst htt
        refine wp_cond_true (by rw [ev_spec (eval_tmp hr.tm) ht]; rfl) ?_
        exact e6 hg E a w ⟨hr.size, hr.le, hr.tm, hr.defers, hr.okT, ⟨hr.m.rel, hr.m.okM, hr.m.uq⟩⟩ Q fun E' a' w' hr' hx' => hQ E' a' w' hr' ⟨hx'.nb, hx'.agree, hx'.os, hx'.tape, hx'.output, hx'.size, hx'.frame, hx'.src⟩
      · rename_i cs hb
        obtain ⟨c1, h1, h2⟩ := csK_spec h
        have hs1 : StOK ⟨s.tm, s.sz, s.mem, s.nb, dec, c1⟩ := ⟨hs.okT, hs.okM, hs.uq⟩
        obtain ⟨e, e1, e2, e3, e4, e5, e6⟩ := ihC y _ out s' h1 hsz hs1
        refine ⟨e, e1, fun hg => (h2 (e2 hg)).2, e3, e4, e5, fun hg E a w hr Q hQ => ?_⟩
        have htt := isTrue_spec hb (h2 (e2 hg)).1
        subst htt
        refine wp_cond_false (by rw [ev_spec (eval_tmp hr.tm) ht]; rfl) ?_
        exact e6 hg E a w ⟨hr.size, hr.le, hr.tm, hr.defers, hr.okT, ⟨hr.m.rel, hr.m.okM, hr.m.uq⟩⟩ Q fun E' a' w' hr' hx' => hQ E' a' w' hr' ⟨hx'.nb, hx'.agree, hx'.os, hx'.tape, hx'.output, hx'.size, hx'.frame, hx'.src⟩
      · cases h
    · cases h
  case block id x =>
    cases hx : exec P S z n (.code x) s with
    | none => rw [hx] at h; simp [blockStep] at h
    | some q =>
      obtain ⟨o1, s1⟩ := q
      rw [hx] at h
      obtain ⟨e, e1, e2, e3, e4, e5, e6⟩ := ihC x s o1 s1 hx hsz hs
      subst e1
      cases e with
      | normal =>
        simp only [blockStep] at h
        cases h
        exact ⟨.normal, rfl, e2, e3, e4, e5, fun hg E a w hr Q hQ => wp_block (e6 hg E a w hr _ fun E' a' w' hr' hx' => hQ E' a' w' hr' hx')⟩
      | ret =>
        simp only [blockStep] at h
        cases h
        exact ⟨.ret, rfl, e2, e3, e4, e5, fun hg E a w hr Q hQ => wp_block (e6 hg E a w hr _ fun E' a' w' hr' hx' => hQ E' a' w' hr' hx')⟩
      | exit i =>
        simp only [blockStep, nbeq] at h
        by_cases hid : i = id
        · simp only [hid, decide_true] at h
          cases h
          refine ⟨.normal, rfl, e2, e3, e4, e5, fun hg E a w hr Q hQ => wp_block (e6 hg E a w hr _ fun E' a' w' hr' hx' => ?_)⟩
          simp only [Ex.to, Exit.inBlock, hid, if_true]
          exact hQ E' a' w' hr' hx'
        · simp only [hid, decide_false] at h
          cases h
          refine ⟨.exit i, rfl, e2, e3, e4, e5, fun hg E a w hr Q hQ => wp_block (e6 hg E a w hr _ fun E' a' w' hr' hx' => ?_)⟩
          simp only [Ex.to, Exit.inBlock, hid, if_false]
          exact hQ E' a' w' hr' hx'
  case loop x =>
    obtain ⟨e, m, e1, e2, e3, e4, e5, e6⟩ := ihL x s out s' h0 hsz hs
    exact ⟨e, e1, e2, e3, e4, e5, fun hg E a w hr Q hQ => wp_loop_rounds m (e6 hg E a w hr Q hQ)⟩
  case exit id =>
    cases h
    exact ⟨.exit id, rfl, fun hg => hg, hs, rfl, Nat.le_refl _, fun _ E a w hr Q hQ => wp_exit (hQ E a w hr (.refl _ _ _))⟩
  case ret =>
    cases h
    exact ⟨.ret, rfl, id, hs, rfl, Nat.le_refl _, fun _ E a w hr Q hQ => wp_ret (hQ E a w hr (.refl _ _ _))⟩

theorem SL_succ {n : Nat} (ihC : SC P S z n) (ihL : SL P S z n) : SL P S z (n + 1) := by
  intro x s out s' h hsz hs
  simp only [exec, step1, codeStep] at h
  cases hx : exec P S z n (.code x) s with
  | none => rw [hx] at h; simp [seqStep] at h
  | some q =>
    obtain ⟨o1, s1⟩ := q
    rw [hx] at h
    obtain ⟨e, e1, e2, e3, e4, e5, e6⟩ := ihC x s o1 s1 hx hsz hs
    subst e1
    by_cases hne : e = .normal
    · subst hne
      simp only [seqStep] at h
      obtain ⟨e', m, f1, f2, f3, f4, f5, f6⟩ := ihL x s1 out s' h (by omega) e3
      refine ⟨e', m + 1, f1, fun hg => e2 (f2 hg), f3, f4.trans e4, Nat.le_trans e5 f5, fun hg E a w hr Q hQ => ?_⟩
      rw [rounds_succ]
      refine e6 (f2 hg) E a w hr _ fun E' a' w' hr' hx' => ?_
      exact f6 hg E' a' w' hr' Q fun E'' a'' w'' hr'' hx'' => hQ E'' a'' w'' hr'' (hx'.trans hx'')
    · have other : seqStep (exec P S z n) (.loop x) (some (Out.ex e, s1)) = some (Out.ex e, s1) := by
        cases e <;> first | exact absurd rfl hne | rfl
      rw [other] at h
      cases h
      refine ⟨e, 1, rfl, e2, e3, e4, e5, fun hg E a w hr Q hQ => ?_⟩
      rw [rounds_succ]
      refine e6 hg E a w hr _ fun E' a' w' hr' hx' => ?_
      have := hQ E' a' w' hr' hx'
      cases e <;> first | exact absurd rfl hne | exact this

/-- The evaluator is sound. -/
theorem exec_sound (hB : BinOK P) (hS : AllOK P S) (hmix : P.follows .mixedOrders = true) (hNG : ∀ (f : FuncId) (fn : Func), P.funcs[f]? = some fn → fn.name ≠ "runtime.NumGoroutine") :
    ∀ n, SC P S z n ∧ SL P S z n ∧ SO P S z n ∧ SB P S z n
  | 0 => ⟨fun c s out s' h => by simp [exec] at h, fun c s out s' h => by simp [exec] at h, fun all l s out s' h => by simp [exec] at h, fun f args s out s' h => by simp [exec] at h⟩
  | n + 1 => by
    obtain ⟨h1, h2, h3, h4⟩ := exec_sound hB hS hmix hNG n
    have hL := SL_succ h1 h2
    exact ⟨SC_succ hB hS hmix h1 h3 hL, hL, SO_succ hB hS hNG h3 h4, SB_succ h1⟩

end
end Go.Lr
