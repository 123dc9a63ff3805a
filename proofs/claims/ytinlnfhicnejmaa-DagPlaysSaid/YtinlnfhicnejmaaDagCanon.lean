/-
  PLAIN: OF A DIAGRAM WITHOUT REPEATS TWO WAYS THAT LEAD TO THE SAME ENDS BY ALL ANSWERS ARE THE SAME. No program.
-/
import Derived.Test.YtinlnfhicnejmaaDagReach
namespace Go.Proofs.Ytinlnfhicnejmaa
set_option linter.unusedVariables false

/-- A way that is an end, or a branch that asks for an atom behind a. -/
def After_ (l : List Br) (a : Int) (u : Int) : Prop := u < 0 ∨ ∃ (k : Nat) (c : Br), u = (k : Int) ∧ l[k]? = some c ∧ a < c.1
/-- A diagram as Make leaves it. -/
structure Red (l : List Br) : Prop where
  good : Good l
  low : ∀ (i : Nat) (b : Br), l[i]? = some b → b.1 < 4
  after : ∀ (i : Nat) (b : Br), l[i]? = some b → ∀ K, After_ l b.1 (toP b K)
  mixed : ∀ (i : Nat) (b : Br), l[i]? = some b → ¬ (b.2.2.1 = b.2.1 ∧ b.2.2.2 = b.2.1)
  once : ∀ (i j : Nat) (b : Br), l[i]? = some b → l[j]? = some b → i = j
/-- Where a walk ends, the answers as a function. -/
def walkG (l : List Br) (α : Nat → Nat) : Nat → Int → Int
  | 0, _ => 0
  | f + 1, root => if root < 0 then -1 - root else match l[root.toNat]? with
    | some b => walkG l α f (toP b (α b.1.toNat))
    | none => 0
theorem walkG_eq (l : List Br) (ans : List Int) : ∀ f root, walkF l ans f root = walkG l (ansP ans) f root
  | 0, _ => rfl
  | f + 1, root => by
    unfold walkF walkG
    by_cases hr : root < 0
    · rw [if_pos hr, if_pos hr]
    · rw [if_neg hr, if_neg hr]
      rcases hb : l[root.toNat]? with _ | b
      · rfl
      · exact walkG_eq l ans f _
theorem walkG_more {l : List Br} (hg : Good l) (α : Nat → Nat) : ∀ (f f' : Nat) (root : Int), root + 2 ≤ f → 1 ≤ f → root + 2 ≤ f' → 1 ≤ f' → walkG l α f root = walkG l α f' root
  | 0, f', root, _, h, _, _ => by omega
  | f + 1, 0, root, _, _, _, h => by omega
  | f + 1, f' + 1, root, h1, _, h2, _ => by
    unfold walkG
    by_cases hr : root < 0
    · rw [if_pos hr, if_pos hr]
    · rw [if_neg hr, if_neg hr]
      rcases hb : l[root.toNat]? with _ | b
      · rfl
      · have := good_to hg hb (α b.1.toNat)
        exact walkG_more hg α f f' _ (by omega) (by omega) (by omega) (by omega)
def ev (l : List Br) (α : Nat → Nat) (u : Int) : Int := walkG l α ((u + 2).toNat + 1) u
theorem ev_end (l : List Br) (α : Nat → Nat) {u : Int} (h : u < 0) : ev l α u = -1 - u := by
  unfold ev walkG; rw [if_pos h]
theorem ev_step {l : List Br} (hg : Good l) (α : Nat → Nat) {k : Nat} {b : Br} (hb : l[k]? = some b) : ev l α (k : Int) = ev l α (toP b (α b.1.toNat)) := by
  have ht := good_to hg hb (α b.1.toNat)
  unfold ev
  have e : walkG l α (((k : Int) + 2).toNat + 1) (k : Int) = walkG l α (((k : Int) + 2).toNat) (toP b (α b.1.toNat)) := by
    conv => lhs; unfold walkG
    rw [if_neg (by omega), Int.toNat_natCast, hb]
  rw [e]
  exact walkG_more hg α _ _ _ (by omega) (by omega) (by omega) (by omega)
/-- The answers, one turned. -/
def turn (α : Nat → Nat) (i k : Nat) : Nat → Nat := fun j => if j = i then k else α j
theorem turn_same (α : Nat → Nat) (i k : Nat) : turn α i k i = k := by unfold turn; rw [if_pos rfl]
theorem turn_other (α : Nat → Nat) {i j : Nat} (k : Nat) (h : j ≠ i) : turn α i k j = α j := by unfold turn; rw [if_neg h]
/-- What asks only for atoms behind a doesn't hang on a's answer. -/
theorem ev_turn {l : List Br} (hr : Red l) (α : Nat → Nat) (i k : Nat) : ∀ (m : Nat) (u : Int), u < (m : Int) → After_ l (i : Int) u → ev l (turn α i k) u = ev l α u
  | 0, u, hu, _ => by rw [ev_end _ _ (by omega), ev_end _ _ (by omega)]
  | m + 1, u, hu, ha => by
    rcases ha with h | ⟨n, c, rfl, hc, hac⟩
    · rw [ev_end _ _ h, ev_end _ _ h]
    · have h0 := (hr.good n c hc).1
      rw [ev_step hr.good _ hc, ev_step hr.good α hc, turn_other α k (by omega)]
      have ht := good_to hr.good hc (α c.1.toNat)
      refine ev_turn hr α i k m _ (by omega) ?_
      rcases hr.after n c hc (α c.1.toNat) with h | ⟨q, d, h1, h2, h3⟩
      · exact .inl h
      · exact .inr ⟨q, d, h1, h2, by omega⟩
/-- A way that there is. -/
def IsWay (l : List Br) (u : Int) : Prop := u < (l.length : Int)
theorem isWay_cases {l : List Br} {u : Int} (h : IsWay l u) : u < 0 ∨ ∃ (k : Nat) (b : Br), u = (k : Int) ∧ l[k]? = some b := by
  rcases Int.lt_or_le u 0 with h0 | h0
  · exact .inl h0
  · obtain ⟨k, rfl⟩ := Int.eq_ofNat_of_zero_le h0
    have hk : k < l.length := by unfold IsWay at h; omega
    exact .inr ⟨k, l[k], rfl, List.getElem?_eq_getElem hk⟩
theorem ev_kid {l : List Br} (hr : Red l) (α : Nat → Nat) {n : Nat} {b : Br} (hb : l[n]? = some b) (K : Nat) : ev l α (toP b K) = ev l (turn α b.1.toNat K) (n : Int) := by
  have h0 := (hr.good n b hb).1
  rw [ev_step hr.good _ hb, turn_same]
  have ht := good_to hr.good hb K
  refine (ev_turn hr α b.1.toNat K n _ (by omega) ?_).symm
  have := hr.after n b hb K
  rwa [show ((b.1.toNat : Nat) : Int) = b.1 by omega]
theorem toP_012 {b c : Br} (h1 : b.1 = c.1) (h : ∀ K, toP b K = toP c K) : b = c := by
  obtain ⟨b0, b1, b2, b3⟩ := b
  obtain ⟨c0, c1, c2, c3⟩ := c
  have e1 := h 0
  have e2 := h 1
  have e3 := h 2
  simp [toP] at e1 e2 e3 h1
  rw [h1, e1, e2, e3]
theorem not_all {l : List Br} (hr : Red l) {n : Nat} {b : Br} (hb : l[n]? = some b) {v : Int} (h : ∀ K, toP b K = v) : False := by
  refine hr.mixed n b hb ?_
  have e1 := h 0
  have e2 := h 1
  have e3 := h 2
  simp [toP] at e1 e2 e3
  exact ⟨by rw [e1, e2], by rw [e1, e3]⟩
theorem canon {l : List Br} (hr : Red l) : ∀ (m : Nat) (u v : Int), u + v + 4 ≤ (m : Int) → IsWay l u → IsWay l v → -1048576 ≤ u → -1048576 ≤ v → (u + 1).toNat + (v + 1).toNat < m → (∀ α, ev l α u = ev l α v) → u = v
  | 0, u, v, _, _, _, _, _, h, _ => by omega
  | m + 1, u, v, hm, hu, hv, hu0, hv0, hlt, he => by
    rcases isWay_cases hu with h | ⟨n, b, rfl, hb⟩
    · rcases isWay_cases hv with h' | ⟨n', c, rfl, hc⟩
      · have := he (fun _ => 0)
        rw [ev_end _ _ h, ev_end _ _ h'] at this
        omega
      · exfalso
        refine not_all hr hc (v := u) (fun K => ?_)
        have ht := good_to hr.good hc K
        have hn' := (List.getElem?_eq_some_iff.1 hc).1
        refine (canon hr m u _ (by omega) hu (by unfold IsWay; omega) hu0 (by omega) (by omega) (fun α => ?_)).symm
        rw [ev_kid hr α hc K, ← he, ev_end _ _ h, ev_end _ _ h]
    · have hb0 := (hr.good n b hb).1
      have hn := (List.getElem?_eq_some_iff.1 hb).1
      have left : After_ l b.1 v → False := fun ha => by
        refine not_all hr hb (v := v) (fun K => ?_)
        have ht := good_to hr.good hb K
        refine canon hr m _ v (by omega) (by unfold IsWay; omega) hv (by omega) hv0 (by omega) (fun α => ?_)
        rw [ev_kid hr α hb K, he]
        exact ev_turn hr α b.1.toNat K ((v + 1).toNat) v (by omega) (by rwa [show ((b.1.toNat : Nat) : Int) = b.1 by omega])
      rcases isWay_cases hv with h' | ⟨n', c, rfl, hc⟩
      · exact (left (.inl h')).elim
      · have hc0 := (hr.good n' c hc).1
        have hn' := (List.getElem?_eq_some_iff.1 hc).1
        rcases Int.lt_trichotomy b.1 c.1 with h1 | h1 | h1
        · exact (left (.inr ⟨n', c, rfl, hc, h1⟩)).elim
        · have hbc : b = c := toP_012 h1 (fun K => by
            have ht := good_to hr.good hb K
            have ht' := good_to hr.good hc K
            refine canon hr m _ _ (by omega) (by unfold IsWay; omega) (by unfold IsWay; omega) (by omega) (by omega) (by omega) (fun α => ?_)
            rw [ev_kid hr α hb K, ev_kid hr α hc K, ← h1, he])
          subst hbc
          rw [hr.once n n' b hb hc]
        · exfalso
          refine not_all hr hc (v := (n : Int)) (fun K => ?_)
          have ht := good_to hr.good hc K
          refine (canon hr m (n : Int) _ (by omega) hu (by unfold IsWay; omega) hu0 (by omega) (by omega) (fun α => ?_)).symm
          rw [ev_kid hr α hc K, ← he]
          exact (ev_turn hr α c.1.toNat K (n + 1) (n : Int) (by omega) (.inr ⟨n, b, rfl, hb, by omega⟩)).symm
end Go.Proofs.Ytinlnfhicnejmaa
