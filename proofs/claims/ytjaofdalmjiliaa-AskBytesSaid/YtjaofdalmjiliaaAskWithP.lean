/-
  LAYER 11, PLAIN: a right request with an attribute instead of what is there. No condition.
-/
import Derived.Test.YtjaofdalmjiliaaAkSameAsks
namespace Go.Proofs.Ytjaofdalmjiliaa
open Go.RowKit

/-- Right: fit, and given once. -/
theorem right_iff (l : List Gv) : rightG l = 0 ↔ l.length ≤ 64 ∧ (∀ i (hi : i < l.length), fitG l[i] = true) ∧ ∀ i j (hi : i < l.length) (hj : j < l.length), l[i].1 = l[j].1 → l[i].2.1 = l[j].2.1 → i = j := by
  constructor
  · intro h
    exact ⟨((right_ok l).1 h).1, fun i hi => (((right_ok l).1 h).2 i hi).1, fun i j hi hj e1 e2 => right_once h hi hj e1 e2⟩
  · rintro ⟨h1, h2, h3⟩
    refine (right_ok l).2 ⟨h1, fun i hi => ⟨h2 i hi, ?_⟩⟩
    have hle := idx_le_at hi
    have hlt : idxG l l[i].1 l[i].2.1 < l.length := by omega
    have := idx_at hlt
    exact h3 _ _ hlt hi this.1 this.2
theorem bag_of_mem {l : List Gv} (h : rightG l = 0) {y : Gv} (hy : y ∈ l) : bagG l y.1 y.2.1 = y.2.2 := by
  obtain ⟨i, hi, rfl⟩ := List.getElem_of_mem hy
  have h1 := (((right_ok l).1 h).2 i hi).2
  rw [bag_at (by rw [h1]; exact hi)]
  simp only [h1]
theorem bag_of_none {l : List Gv} {c : Int} {n : ByteArray} (h : ∀ y ∈ l, ¬ (y.1 = c ∧ y.2.1 = n)) : bagG l c n = [] := bag_none (fun h0 => h _ (List.getElem_mem h0) (idx_at h0))
theorem withG_all {p : Gv → Prop} {l : List Gv} {g : Gv} (hl : ∀ y ∈ l, p y) (hg : p g) : ∀ y ∈ withG l g, p y := by
  intro y hy
  unfold withG at hy
  split at hy
  · rcases List.mem_or_eq_of_mem_set hy with hy | rfl
    · exact hl y hy
    · exact hg
  · rcases List.mem_append.1 hy with hy | hy
    · exact hl y hy
    · rw [List.mem_singleton] at hy; subst hy; exact hg
theorem withG_mem {l : List Gv} (h : rightG l = 0) (g y : Gv) : y ∈ withG l g ↔ y = g ∨ (y ∈ l ∧ ¬ (y.1 = g.1 ∧ y.2.1 = g.2.1)) := by
  unfold withG
  split
  · rename_i hin
    have hk := idx_at hin
    constructor
    · intro hy
      obtain ⟨i, hi, rfl⟩ := List.getElem_of_mem hy
      rw [List.length_set] at hi
      by_cases e : i = idxG l g.1 g.2.1
      · subst e
        exact .inl (List.getElem_set_self _)
      · rw [List.getElem_set_ne (Ne.symm e)]
        exact .inr ⟨List.getElem_mem _, fun ⟨e1, e2⟩ => e (right_once h hi hin (e1.trans hk.1.symm) (e2.trans hk.2.symm))⟩
    · rintro (rfl | ⟨hy, hne⟩)
      · exact List.mem_set hin y
      · obtain ⟨i, hi, rfl⟩ := List.getElem_of_mem hy
        have e : idxG l g.1 g.2.1 ≠ i := fun e => hne (by subst e; exact hk)
        have := List.getElem_mem (l := l.set (idxG l g.1 g.2.1) g) (n := i) (by rw [List.length_set]; exact hi)
        rwa [List.getElem_set_ne e] at this
  · rename_i hout
    rw [List.mem_append, List.mem_singleton]
    constructor
    · rintro (hy | rfl)
      · refine .inr ⟨hy, fun hk => hout ?_⟩
        exact List.findIdx_lt_length_of_exists ⟨y, hy, isG_iff.2 hk⟩
      · exact .inl rfl
    · rintro (rfl | ⟨hy, _⟩)
      · exact .inr rfl
      · exact .inl hy
theorem withG_right {l : List Gv} {g : Gv} (h : rightG l = 0) (hg : rightG [g] = 0) (hn : l.length < 60) : rightG (withG l g) = 0 := by
  obtain ⟨h1, h2, h3⟩ := (right_iff l).1 h
  have hfg : fitG g = true := ((right_iff [g]).1 hg).2.1 0 (by simp)
  have hall : ∀ y ∈ withG l g, fitG y = true := withG_all (fun y hy => by obtain ⟨i, hi, rfl⟩ := List.getElem_of_mem hy; exact h2 i hi) hfg
  refine (right_iff _).2 ⟨by have := with_len l g; omega, fun i hi => hall _ (List.getElem_mem _), ?_⟩
  unfold withG
  split
  · rename_i hin
    have hk := idx_at hin
    intro i j hi hj e1 e2
    rw [List.length_set] at hi hj
    have key : ∀ i (hi : i < l.length), ((l.set (idxG l g.1 g.2.1) g)[i]'(by rw [List.length_set]; exact hi)).1 = l[i].1 ∧ ((l.set (idxG l g.1 g.2.1) g)[i]'(by rw [List.length_set]; exact hi)).2.1 = l[i].2.1 := fun i hi => by
      by_cases e : idxG l g.1 g.2.1 = i
      · subst e
        rw [List.getElem_set_self]
        exact ⟨hk.1.symm, hk.2.symm⟩
      · rw [List.getElem_set_ne e]
        exact ⟨rfl, rfl⟩
    rw [(key i hi).1, (key j hj).1] at e1
    rw [(key i hi).2, (key j hj).2] at e2
    exact h3 i j hi hj e1 e2
  · rename_i hout
    have hno : ∀ i (hi : i < l.length), ¬ (l[i].1 = g.1 ∧ l[i].2.1 = g.2.1) := fun i hi hk => hout (List.findIdx_lt_length_of_exists ⟨l[i], List.getElem_mem _, isG_iff.2 hk⟩)
    intro i j hi hj e1 e2
    rw [List.length_append, List.length_singleton] at hi hj
    rcases Nat.lt_or_ge i l.length with hi' | hi' <;> rcases Nat.lt_or_ge j l.length with hj' | hj'
    · rw [List.getElem_append_left hi', List.getElem_append_left hj'] at e1 e2
      exact h3 i j hi' hj' e1 e2
    · exfalso
      rw [List.getElem_append_left hi', List.getElem_append_right hj', List.getElem_singleton] at e1 e2
      exact hno i hi' ⟨e1, e2⟩
    · exfalso
      rw [List.getElem_append_left hj', List.getElem_append_right hi', List.getElem_singleton] at e1 e2
      exact hno j hj' ⟨e1.symm, e2.symm⟩
    · omega
theorem withG_has {l : List Gv} (h : rightG l = 0) (g : Gv) : g ∈ withG l g := (withG_mem h g g).2 (.inl rfl)
/-- What was given last is what is there. -/
theorem withG_bag {l : List Gv} {g : Gv} (h : rightG l = 0) (hg : rightG [g] = 0) (hn : l.length < 60) : bagG (withG l g) g.1 g.2.1 = g.2.2 := bag_of_mem (withG_right h hg hn) (withG_has h g)
/-- All else is as it was. -/
theorem withG_else {l : List Gv} {g : Gv} (h : rightG l = 0) (hg : rightG [g] = 0) (hn : l.length < 60) (c : Int) (n : ByteArray) (hne : ¬ (c = g.1 ∧ n = g.2.1)) : bagG (withG l g) c n = bagG l c n := by
  by_cases hex : ∃ y ∈ l, y.1 = c ∧ y.2.1 = n
  · obtain ⟨y, hy, rfl, rfl⟩ := hex
    rw [bag_of_mem h hy, bag_of_mem (withG_right h hg hn) ((withG_mem h g y).2 (.inr ⟨hy, hne⟩))]
  · have hno : ∀ y ∈ l, ¬ (y.1 = c ∧ y.2.1 = n) := fun y hy hk => hex ⟨y, hy, hk⟩
    rw [bag_of_none hno, bag_of_none fun y hy hk => ?_]
    rcases (withG_mem h g y).1 hy with rfl | ⟨hy, _⟩
    · exact hne ⟨hk.1.symm, hk.2.symm⟩
    · exact hno y hy hk
/-- Given twice is given once. -/
theorem withG_twice {l : List Gv} {g : Gv} (h : rightG l = 0) (hg : rightG [g] = 0) (hn : l.length < 60) : withG (withG l g) g = withG l g := by
  obtain ⟨i, hi, e⟩ := List.getElem_of_mem (withG_has h g)
  have h1 := (((right_ok _).1 (withG_right h hg hn)).2 i hi).2
  rw [e] at h1
  generalize withG l g = M at *
  have hin : idxG M g.1 g.2.1 < M.length := by rw [h1]; exact hi
  rw [withG_in hin]
  simp only [h1]
  rw [← e, List.set_getElem_self]
end Go.Proofs.Ytjaofdalmjiliaa
