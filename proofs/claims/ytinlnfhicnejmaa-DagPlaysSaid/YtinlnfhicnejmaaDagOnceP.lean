/-
  PLAIN: THE ENDS BY ALL ANSWERS TO FOUR THINGS TELL WAYS APART; WHAT Make LEAVES IS A DIAGRAM WITHOUT REPEATS. No program.
-/
import Derived.Test.YtinlnfhicnejmaaDagCanon
namespace Go.Proofs.Ytinlnfhicnejmaa
set_option linter.unusedVariables false

def ans4 (a : Nat) : List Int := [((a % 3 : Nat) : Int), ((a / 3 % 3 : Nat) : Int), ((a / 9 % 3 : Nat) : Int), ((a / 27 : Nat) : Int)]
theorem ans4_len (a : Nat) : (ans4 a).length = 4 := rfl
/-- The first k ends of a way. -/
def endsK (l : List Br) (u : Int) (k : Nat) : List Int := (List.range k).map fun a => walkP l (ans4 a) u
theorem endsK_len (l : List Br) (u : Int) (k : Nat) : (endsK l u k).length = k := by simp [endsK]
theorem endsK_succ (l : List Br) (u : Int) (k : Nat) : endsK l u (k + 1) = endsK l u k ++ [walkP l (ans4 k) u] := by simp [endsK, List.range_succ]
theorem endsK_zero (l : List Br) (u : Int) : endsK l u 0 = [] := rfl
theorem toP_clip (b : Br) (k : Nat) : toP b (min k 2) = toP b k := by
  unfold toP
  by_cases h0 : k = 0
  · subst h0; rfl
  · by_cases h1 : k = 1
    · subst h1; rfl
    · rw [if_neg h0, if_neg h1, if_neg (by omega), if_neg (by omega)]
theorem walkG_cong {l : List Br} (hr : Red l) {α β : Nat → Nat} (h : ∀ i, i < 4 → ∀ b : Br, toP b (α i) = toP b (β i)) : ∀ f u, walkG l α f u = walkG l β f u
  | 0, _ => rfl
  | f + 1, u => by
    unfold walkG
    by_cases hu : u < 0
    · rw [if_pos hu, if_pos hu]
    · rw [if_neg hu, if_neg hu]
      rcases hb : l[u.toNat]? with _ | b
      · rfl
      · have h1 := hr.low _ b hb
        have h2 := (hr.good _ b hb).1
        simp only
        rw [h b.1.toNat (by omega) b]
        exact walkG_cong hr h f _
/-- The number of four answers. -/
def num4 (α : Nat → Nat) : Nat := min (α 0) 2 + 3 * min (α 1) 2 + 9 * min (α 2) 2 + 27 * min (α 3) 2
theorem num4_lt (α : Nat → Nat) : num4 α < 81 := by unfold num4; omega
theorem ansP_of {ans : List Int} {k v : Nat} (h : ans[k]? = some (v : Int)) (hv : v ≤ 2) : ansP ans k = v := by
  unfold ansP; rw [h]; simp only; rw [if_neg (by omega)]; omega
theorem ans4_num (α : Nat → Nat) : ∀ i, i < 4 → ansP (ans4 (num4 α)) i = min (α i) 2 := by
  intro i hi
  obtain ⟨p, hp⟩ : ∃ p, p = min (α 0) 2 := ⟨_, rfl⟩
  obtain ⟨q, hq⟩ : ∃ q, q = min (α 1) 2 := ⟨_, rfl⟩
  obtain ⟨r, hr⟩ : ∃ r, r = min (α 2) 2 := ⟨_, rfl⟩
  obtain ⟨s, hs⟩ : ∃ s, s = min (α 3) 2 := ⟨_, rfl⟩
  have hn : num4 α = p + 3 * q + 9 * r + 27 * s := by unfold num4; rw [hp, hq, hr, hs]
  have b1 : p ≤ 2 := by omega
  have b2 : q ≤ 2 := by omega
  have b3 : r ≤ 2 := by omega
  have b4 : s ≤ 2 := by omega
  obtain rfl | rfl | rfl | rfl : i = 0 ∨ i = 1 ∨ i = 2 ∨ i = 3 := by omega
  · rw [← hp]; refine ansP_of ?_ b1; unfold ans4; rw [hn]; simp only [List.getElem?_cons_zero]; congr 2; omega
  · rw [← hq]; refine ansP_of ?_ b2; unfold ans4; rw [hn]; simp only [List.getElem?_cons_succ, List.getElem?_cons_zero]; congr 2; omega
  · rw [← hr]; refine ansP_of ?_ b3; unfold ans4; rw [hn]; simp only [List.getElem?_cons_succ, List.getElem?_cons_zero]; congr 2; omega
  · rw [← hs]; refine ansP_of ?_ b4; unfold ans4; rw [hn]; simp only [List.getElem?_cons_succ, List.getElem?_cons_zero]; congr 2; omega
theorem walkP_ev {l : List Br} (ans : List Int) {u : Int} (h : IsWay l u) : walkP l ans u = ev l (ansP ans) u := by
  unfold IsWay at h
  unfold walkP ev
  rw [if_neg (by omega), walkG_eq]
theorem ev_num {l : List Br} (hr : Red l) (α : Nat → Nat) {u : Int} (h : IsWay l u) : ev l α u = walkP l (ans4 (num4 α)) u := by
  rw [walkP_ev _ h]
  unfold ev
  refine walkG_cong hr (fun i hi b => ?_) _ _
  rw [ans4_num α i hi, toP_clip]
/-- Ways are the same just if their ends are. -/
theorem ends_iff {l : List Br} (hr : Red l) {u v : Int} (hu : IsWay l u) (hv : IsWay l v) (hu0 : -1048576 ≤ u) (hv0 : -1048576 ≤ v) : endsK l u 81 = endsK l v 81 ↔ u = v := by
  refine ⟨fun h => ?_, fun h => by rw [h]⟩
  refine canon hr ((u + 1).toNat + (v + 1).toNat + (u + v + 4).toNat + 1) u v (by omega) hu hv hu0 hv0 (by omega) (fun α => ?_)
  rw [ev_num hr α hu, ev_num hr α hv]
  have h1 := congrArg (fun r => r[num4 α]?) h
  simp [endsK, num4_lt] at h1
  exact h1
theorem red_nil : Red [] := ⟨good_nil, fun i b h => by simp at h, fun i b h => by simp at h, fun i b h => by simp at h, fun i j b h => by simp at h⟩
theorem idxP_lt (b : Br) : ∀ (l : List Br) (k : Nat), idxP b l k < (k : Int) + l.length
  | [], k => by show (-1 : Int) < _; simp only [List.length_nil]; omega
  | x :: l, k => by
    unfold idxP
    split
    · simp only [List.length_cons]; omega
    · have := idxP_lt b l (k + 1); simp only [List.length_cons]; omega
theorem idxP_none (b : Br) : ∀ (l : List Br) (k : Nat), ¬ 0 ≤ idxP b l k → ∀ (i : Nat), l[i]? = some b → False
  | [], k, _, i, h => by simp at h
  | x :: l, k, hn, i, h => by
    unfold idxP at hn
    by_cases he : x = b
    · rw [if_pos he] at hn; omega
    · rw [if_neg he] at hn
      cases i with
      | zero => simp at h; exact he h
      | succ i => rw [List.getElem?_cons_succ] at h; exact idxP_none b l (k + 1) hn i h
theorem getElem_snoc {l : List Br} {b c : Br} {i : Nat} (h : (l ++ [b])[i]? = some c) : l[i]? = some c ∨ (i = l.length ∧ c = b) := by
  rcases Nat.lt_or_ge i l.length with hi | hi
  · rw [List.getElem?_append_left hi] at h; exact .inl h
  · rw [List.getElem?_append_right hi] at h
    have hi0 : i - l.length = 0 := by
      rcases Nat.eq_zero_or_pos (i - l.length) with h0 | h0
      · exact h0
      · rw [List.getElem?_eq_none (by simp only [List.length_cons, List.length_nil]; omega)] at h; cases h
    rw [hi0] at h
    simp at h
    exact .inr ⟨by omega, h.symm⟩
theorem after_snoc_ {l : List Br} {b : Br} {a u : Int} (h : After_ l a u) : After_ (l ++ [b]) a u := by
  rcases h with h | ⟨k, c, h1, h2, h3⟩
  · exact .inl h
  · exact .inr ⟨k, c, h1, by rw [List.getElem?_append_left (List.getElem?_eq_some_iff.1 h2).1]; exact h2, h3⟩
theorem may_after {l : List Br} {a w : Int} (h : mayP l a w = true) : After_ l a w := by
  unfold mayP at h
  by_cases hw : w < 0
  · exact .inl hw
  · rw [if_neg hw] at h
    rcases hb : l[w.toNat]? with _ | b
    · rw [hb] at h; cases h
    · rw [hb] at h
      exact .inr ⟨w.toNat, b, by omega, hb, of_decide_eq_true h⟩
/-- What comes of a branch that is asked. -/
structure Made (l : List Br) (r : Int × Int × List Br) : Prop where
  red : Red r.2.2
  ge : l.length ≤ r.2.2.length
  le : r.2.2.length ≤ l.length + 1
  ans : (r.2.1 = 0 ∧ IsWay r.2.2 r.1 ∧ -1048576 ≤ r.1) ∨ r.2.1 = 1
theorem red_make {l : List Br} (hr : Red l) (hl : l.length < 60) (b : Br) (ha : b.1 < 4) : Made l (makeP 60 l b) := by
  have hgm := good_make hr.good 60 b
  unfold makeP at hgm ⊢
  by_cases h1 : b.1 < 0 ∨ 64 ≤ b.1
  · rw [if_pos h1]; exact ⟨hr, Nat.le_refl _, Nat.le_succ _, .inr rfl⟩
  rw [if_neg h1] at hgm ⊢
  by_cases h2 : mayP l b.1 b.2.1 = true ∧ mayP l b.1 b.2.2.1 = true ∧ mayP l b.1 b.2.2.2 = true
  case neg => rw [if_pos h2]; exact ⟨hr, Nat.le_refl _, Nat.le_succ _, .inr rfl⟩
  rw [if_neg (fun h => h h2)] at hgm ⊢
  by_cases h3 : b.2.2.1 = b.2.1 ∧ b.2.2.2 = b.2.1
  · rw [if_pos h3]
    have := may_range h2.1
    exact ⟨hr, Nat.le_refl _, Nat.le_succ _, .inl ⟨rfl, this.2, this.1⟩⟩
  rw [if_neg h3] at hgm ⊢
  by_cases h4 : 0 ≤ idxP b l 0
  · rw [if_pos h4]
    have := idxP_lt b l 0
    exact ⟨hr, Nat.le_refl _, Nat.le_succ _, .inl ⟨rfl, by show idxP b l 0 < (l.length : Int); omega, by show _ ≤ idxP b l 0; omega⟩⟩
  rw [if_neg h4, if_neg (by omega)] at hgm ⊢
  have hno := idxP_none b l 0 h4
  refine ⟨⟨hgm, ?_, ?_, ?_, ?_⟩, ?_, ?_, .inl ⟨rfl, ?_, ?_⟩⟩
  · intro i c hc
    rcases getElem_snoc hc with h | ⟨_, rfl⟩
    · exact hr.low i c h
    · exact ha
  · intro i c hc K
    rcases getElem_snoc hc with h | ⟨_, rfl⟩
    · exact after_snoc_ (hr.after i c h K)
    · refine after_snoc_ ?_
      unfold toP
      split
      · exact may_after h2.1
      · split
        · exact may_after h2.2.1
        · exact may_after h2.2.2
  · intro i c hc
    rcases getElem_snoc hc with h | ⟨_, rfl⟩
    · exact hr.mixed i c h
    · exact h3
  · intro i j c hi hj
    rcases getElem_snoc hi with h | ⟨e, rfl⟩
    · rcases getElem_snoc hj with h' | ⟨e', rfl⟩
      · exact hr.once i j c h h'
      · exact (hno i h).elim
    · rcases getElem_snoc hj with h' | ⟨e', _⟩
      · exact (hno j h').elim
      · omega
  · simp
  · simp
  · show ((l.length : Nat) : Int) < _
    simp only [List.length_append, List.length_cons, List.length_nil]; omega
  · show (-1048576 : Int) ≤ ((l.length : Nat) : Int)
    omega
theorem isWay_more {l m : List Br} {u : Int} (h : IsWay l u) (hm : l.length ≤ m.length) : IsWay m u := by unfold IsWay at *; omega
end Go.Proofs.Ytinlnfhicnejmaa
