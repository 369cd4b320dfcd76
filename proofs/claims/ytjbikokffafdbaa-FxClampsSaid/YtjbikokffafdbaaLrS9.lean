/- The local evaluator: a region that draws its order. -/
import Derived.Test.YtjbikokffafdbaaLrS8
namespace Go.Lr
open Go.RowKit

/-- A state, abstractly: slots and blocks. -/
structure AS where
  τ : Nat → LV
  g : Nat → Option Blk

def Rec.go (r : Rec) (s : AS) : AS := ⟨updτ s.τ r.o.dst r.d.val, nwG (wrG s.g r.d.wr) r.nb r.d.nw⟩

def fin : List Rec → AS → AS
  | [], s => s
  | r :: l, s => fin l (r.go s)

section
variable {P : Program} {S : FuncId → Option Sum} {z : Md} {all : List Oper}

def Val (P : Program) (S : FuncId → Option Sum) (z : Md) (all : List Oper) (r : Rec) (s : AS) : Prop :=
  stepD P S z all s.τ s.g r.nb r.gd r.pd r.o = some (r.d, r.gcs)

def chain (P : Program) (S : FuncId → Option Sum) (z : Md) (all : List Oper) : List Rec → AS → Prop
  | [], _ => True
  | r :: l, s => Val P S z all r s ∧ chain P S z all l (r.go s)

theorem anyMem_false : ∀ {l m : List Nat}, anyMem l m = false → ∀ i ∈ l, i ∉ m
  | [], m, _ => by simp
  | a :: l, m, h => by
    simp only [anyMem] at h
    cases hm : memB m a with
    | true => rw [hm] at h; cases h
    | false =>
      rw [hm] at h
      intro i hi
      rcases List.mem_cons.1 hi with rfl | hi
      · exact fun hh => by rw [memB_iff.2 hh] at hm; cases hm
      · exact anyMem_false h i hi

theorem news_mem : ∀ (l : List Blk) (nb i : Nat), i ∈ news nb l ↔ nb ≤ i ∧ i < nb + l.length
  | [], nb, i => by simp [news]
  | b :: l, nb, i => by
    simp only [news, List.mem_cons, news_mem l, List.length_cons]
    omega

/-- Two steps of which either may go first. -/
structure Apart (all : List Oper) (x y : Rec) : Prop where
  xy : ∀ d, x.o.dst = some d → d ∉ y.rT all
  yx : ∀ d, y.o.dst = some d → d ∉ x.rT all
  dd : ∀ d, x.o.dst = some d → y.o.dst ≠ some d
  bxy : ∀ i ∈ x.wB, i ∉ y.d.rd ++ y.wB
  byx : ∀ i ∈ y.wB, i ∉ x.d.rd ++ x.wB

theorem conf_apart {x y : Rec} (h : conf all x y = false) : Apart all x y := by
  simp only [conf, Bool.or_eq_false_iff] at h
  obtain ⟨⟨⟨⟨h1, h2⟩, h3⟩, h4⟩, h5⟩ := h
  refine ⟨fun d hd hm => ?_, fun d hd hm => ?_, fun d hd he => ?_, anyMem_false h4, anyMem_false h5⟩
  · rw [hd] at h1; simp only [optMem] at h1; rw [memB_iff.2 hm] at h1; cases h1
  · rw [hd] at h2; simp only [optMem] at h2; rw [memB_iff.2 hm] at h2; cases h2
  · rw [hd, he] at h3; simp [optEq] at h3

theorem go_τ {r : Rec} {s : AS} {t : Nat} (h : ∀ d, r.o.dst = some d → d ≠ t) : (r.go s).τ t = s.τ t := by
  unfold Rec.go updτ
  cases hd : r.o.dst with
  | none => rfl
  | some d => simp [Ne.symm (h d hd)]

theorem nwG_none {g : Nat → Option Blk} : ∀ (l : List Blk) (nb k : Nat), (k < nb ∨ nb + l.length ≤ k) → nwG g nb l k = g k
  | [], _, _, _ => rfl
  | b :: l, nb, k, h => by
    simp only [nwG]
    simp only [List.length_cons] at h
    rw [nwG_none l (nb + 1) k (by omega), if_neg (by omega)]

theorem go_g {r : Rec} {s : AS} {i : Nat} (h : i ∉ r.wB) : (r.go s).g i = s.g i := by
  unfold Rec.wB at h
  rw [List.mem_append, news_mem, keys_eq] at h
  unfold Rec.go
  simp only
  rw [nwG_none _ _ _ (by omega), wrG_none]
  intro x hx e
  exact h (.inl (by rw [← e]; exact List.mem_map_of_mem hx))

theorem Val.loc {r : Rec} {s s' : AS} (h : Val P S z all r s) (ht : ∀ t ∈ r.rT all, s'.τ t = s.τ t) (hg : ∀ i ∈ r.d.rd ++ keys r.d.wr, s'.g i = s.g i) : Val P S z all r s' :=
  stepD_loc h ht hg

theorem Apart.back {x y : Rec} (h : Apart all x y) {s : AS} (hv : Val P S z all y (x.go s)) : Val P S z all y s := by
  refine hv.loc (fun t ht => (go_τ fun d hd e => h.xy d hd (e ▸ ht)).symm) fun i hi => (go_g fun hx => h.bxy i hx ?_).symm
  rw [List.mem_append] at hi ⊢
  rcases hi with hi | hi
  · exact .inl hi
  · exact .inr (by unfold Rec.wB; rw [List.mem_append]; exact .inl hi)

theorem Apart.fore {x y : Rec} (h : Apart all x y) {s : AS} (hv : Val P S z all x s) : Val P S z all x (y.go s) := by
  refine hv.loc (fun t ht => go_τ fun d hd e => h.yx d hd (e ▸ ht)) fun i hi => go_g fun hy => h.byx i hy ?_
  rw [List.mem_append] at hi ⊢
  rcases hi with hi | hi
  · exact .inl hi
  · exact .inr (by unfold Rec.wB; rw [List.mem_append]; exact .inl hi)

theorem wrG_congr {g g' : Nat → Option Blk} : ∀ (l : List (Nat × Option Blk)) (k : Nat), (k ∈ l.map (·.1) ∨ g k = g' k) → wrG g l k = wrG g' l k
  | [], k, h => by
    rcases h with h | h
    · simp at h
    · exact h
  | (i, s) :: l, k, h => by
    simp only [wrG]
    refine wrG_congr l k ?_
    simp only [List.map_cons, List.mem_cons] at h
    by_cases hk : k = i
    · exact .inr (by simp [hk])
    · rcases h with (h | h) | h
      · exact absurd h hk
      · exact .inl h
      · exact .inr (by simp [hk, h])

theorem nwG_congr {g g' : Nat → Option Blk} : ∀ (l : List Blk) (nb k : Nat), ((nb ≤ k ∧ k < nb + l.length) ∨ g k = g' k) → nwG g nb l k = nwG g' nb l k
  | [], nb, k, h => by
    rcases h with h | h
    · simp at h; omega
    · exact h
  | b :: l, nb, k, h => by
    simp only [nwG]
    refine nwG_congr l (nb + 1) k ?_
    simp only [List.length_cons] at h
    by_cases hk : k = nb
    · exact .inr (by simp [hk])
    · rcases h with h | h
      · exact .inl (by omega)
      · exact .inr (by simp [hk, h])

theorem go_mem {r : Rec} {s s' : AS} {i : Nat} (h : i ∈ r.wB) : (r.go s).g i = (r.go s').g i := by
  unfold Rec.wB at h
  rw [List.mem_append, news_mem, keys_eq] at h
  unfold Rec.go
  simp only
  rcases h with h | h
  · exact nwG_congr _ _ _ (.inr (wrG_congr _ _ (.inl h)))
  · exact nwG_congr _ _ _ (.inl h)

theorem Apart.comm {x y : Rec} (h : Apart all x y) (s : AS) : x.go (y.go s) = y.go (x.go s) := by
  have hτ : (x.go (y.go s)).τ = (y.go (x.go s)).τ := by
    funext t
    unfold Rec.go updτ
    cases hx : x.o.dst with
    | none => cases hy : y.o.dst <;> rfl
    | some d =>
      cases hy : y.o.dst with
      | none => rfl
      | some e =>
        have hne : d ≠ e := fun he => h.dd d hx (by rw [hy, he])
        simp only
        by_cases h1 : t = d
        · by_cases h2 : t = e
          · exact absurd (h1.symm.trans h2) hne
          · simp [h1, hne]
        · by_cases h2 : t = e
          · simp [h2, Ne.symm hne]
          · simp [h1, h2]
  have hg : (x.go (y.go s)).g = (y.go (x.go s)).g := by
    funext i
    by_cases hx : i ∈ x.wB
    · have hy : i ∉ y.wB := fun hy => h.byx i hy (by rw [List.mem_append]; exact .inr hx)
      rw [go_g hy, go_mem (s' := s) hx]
    · by_cases hy : i ∈ y.wB
      · rw [go_g hx, go_mem (s' := x.go s) hy]
      · rw [go_g hx, go_g hy, go_g hy, go_g hx]
  cases h1 : x.go (y.go s)
  cases h2 : y.go (x.go s)
  rw [h1, h2] at hτ hg
  simp only at hτ hg
  rw [hτ, hg]

/-- One step taken ahead of those that it is apart from. -/
theorem chain_front {r : Rec} {B : List Rec} : ∀ {A : List Rec} {s : AS}, chain P S z all (A ++ r :: B) s → (∀ x ∈ A, Apart all x r) →
    Val P S z all r s ∧ chain P S z all (A ++ B) (r.go s) ∧ fin (A ++ r :: B) s = fin (A ++ B) (r.go s)
  | [], s, h, _ => ⟨h.1, h.2, rfl⟩
  | x :: A, s, h, ha => by
    obtain ⟨h1, h2⟩ := h
    obtain ⟨g1, g2, g3⟩ := chain_front h2 fun y hy => ha y (by simp [hy])
    have hx := ha x (by simp)
    refine ⟨hx.back g1, ⟨hx.fore h1, ?_⟩, ?_⟩
    · show chain P S z all (A ++ B) (x.go (r.go s))
      rw [hx.comm s]
      exact g2
    · show fin (A ++ r :: B) (x.go s) = fin (A ++ B) (x.go (r.go s))
      rw [g3, hx.comm s]

end
end Go.Lr
