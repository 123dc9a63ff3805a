/-
  MORE PLAIN LAWS of what many decisions make. No program.
-/
import Derived.Test.YtlkikaeboeaadaaCombL
namespace Go.Proofs.Ytlkikaeboeaadaa
set_option linter.unusedVariables false

theorem fold3 (l : List (Nat × Nat)) : ∀ j, l.foldl (stepP 3) j = bif j == (0, 0) then firstP l else j := by
  induction l with
  | nil =>
    intro j
    by_cases h : j = (0, 0)
    · subst h; rfl
    · rw [beq_eq_false_iff_ne.2 h]; rfl
  | cons m l ih =>
    intro j
    rw [List.foldl_cons, ih]
    show (bif (bif j == (0, 0) then m else j) == (0, 0) then firstP l else (bif j == (0, 0) then m else j)) = _
    by_cases h : j = (0, 0)
    · subst h
      show (bif m == (0, 0) then firstP l else m) = firstP (m :: l)
      unfold firstP
      by_cases hm : m = (0, 0)
      · subst hm
        rw [List.find?_cons_of_neg (by decide)]; rfl
      · have ha : appliesP m = true := by unfold appliesP; rw [beq_eq_false_iff_ne.2 hm]; rfl
        rw [List.find?_cons_of_pos ha, beq_eq_false_iff_ne.2 hm]; rfl
    · rw [beq_eq_false_iff_ne.2 h]
      show (bif j == (0, 0) then firstP l else j) = j
      rw [beq_eq_false_iff_ne.2 h]; rfl
theorem fold3_first (l : List (Nat × Nat)) : l.foldl (stepP 3) (0, 0) = firstP l := fold3 l (0, 0)
theorem right_is {m : Nat × Nat} (h : rightP m = true) : (m.1 == 4) = ((4, 0) == m) ∧ (m.2 == 4) = ((0, 4) == m) := by
  rcases right_six h with rfl | rfl | rfl | rfl | rfl | rfl <;> decide
theorem max_is (a b : Nat) (ha : halfN a) (hb : halfN b) : (max a b == 4) = ((a == 4) || (b == 4)) := by
  unfold halfN at *
  rcases ha with rfl | rfl | rfl <;> rcases hb with rfl | rfl | rfl <;> decide
theorem join_has {l : List (Nat × Nat)} (h : All6 l) : ((joinsP l).1 == 4) = hasP (4, 0) l ∧ ((joinsP l).2 == 4) = hasP (0, 4) l := by
  induction l with
  | nil => exact ⟨rfl, rfl⟩
  | cons m l ih =>
    have hm := h m (List.mem_cons_self ..)
    have hl : All6 l := fun x hx => h x (List.mem_cons_of_mem _ hx)
    have h1 := ih hl
    have h2 := right_is hm
    have h3 := right_half hm
    have h4 := joinsP_half hl
    rw [joinsP_cons]
    constructor
    · show (max m.1 (joinsP l).1 == 4) = ((4, 0) == m || hasP (4, 0) l)
      rw [max_is _ _ h3.1 h4.1, h2.1, h1.1]
    · show (max m.2 (joinsP l).2 == 4) = ((0, 4) == m || hasP (0, 4) l)
      rw [max_is _ _ h3.2 h4.2, h2.2, h1.2]
theorem all_take (p : Nat × Nat → Bool) (l : List (Nat × Nat)) (k : Nat) (hk : k < l.length) : (l.take (k + 1)).all p = ((l.take k).all p && p l[k]) := by
  rw [List.take_succ_eq_append_getElem hk, List.all_append]; simp
theorem any_take (p : Nat × Nat → Bool) (l : List (Nat × Nat)) (k : Nat) (hk : k < l.length) : (l.take (k + 1)).any p = ((l.take k).any p || p l[k]) := by
  rw [List.take_succ_eq_append_getElem hk, List.any_append]; simp
/-- How many apply. -/
theorem F_take (l : List (Nat × Nat)) (k : Nat) (hk : k < l.length) : (F (l.take (k + 1))).length = (F (l.take k)).length + (bif l[k] == (0, 0) then 0 else 1) := by
  rw [List.take_succ_eq_append_getElem hk, F_append]
  by_cases h : l[k] = (0, 0)
  · rw [h, F_cons_no _ (by decide)]; simp [F]
  · have ha : appliesP l[k] = true := by unfold appliesP; rw [beq_eq_false_iff_ne.2 h]; rfl
    rw [F_cons_yes _ ha, beq_eq_false_iff_ne.2 h]; simp [F]
/-- Turned. -/
theorem joins_turn (l : List (Nat × Nat)) : joinsP (l.map swapP) = swapP (joinsP l) := by
  induction l with
  | nil => rfl
  | cons m l ih => rw [List.map_cons, joinsP_cons, joinsP_cons, ih]; rfl
theorem swap_eq (a b : Nat × Nat) : (swapP a == swapP b) = (a == b) := by
  rw [Bool.eq_iff_iff, beq_iff_eq, beq_iff_eq]
  unfold swapP
  constructor
  · intro h; injection h with h1 h2; exact Prod.ext h2 h1
  · rintro rfl; rfl
theorem applies_turn (m : Nat × Nat) : appliesP (swapP m) = appliesP m := by
  unfold appliesP
  rw [show ((0, 0) : Nat × Nat) = swapP (0, 0) from rfl, swap_eq]; rfl
theorem first_turn (l : List (Nat × Nat)) : firstP (l.map swapP) = swapP (firstP l) := by
  unfold firstP
  rw [List.find?_map]
  have : (appliesP ∘ swapP) = appliesP := funext applies_turn
  rw [this]
  cases l.find? appliesP <;> rfl
theorem has_turn (m : Nat × Nat) (l : List (Nat × Nat)) : hasP (swapP m) (l.map swapP) = hasP m l := by
  unfold hasP
  rw [List.any_map]
  congr 1
  exact funext fun x => swap_eq m x
theorem unless_turn (m o : Nat × Nat) (l : List (Nat × Nat)) : unlessP (l.map swapP) (swapP m) (swapP o) = swapP (unlessP l m o) := by
  unfold unlessP
  rw [has_turn]
  cases hasP o l <;> rfl
/-- Another order. -/
theorem joins_perm {l m : List (Nat × Nat)} (h : l.Perm m) : joinsP l = joinsP m := by
  induction h with
  | nil => rfl
  | cons x _ ih => rw [joinsP_cons, joinsP_cons, ih]
  | swap x y l => rw [joinsP_cons, joinsP_cons, joinsP_cons, joinsP_cons, ← joinP_assoc', ← joinP_assoc', joinP_comm' x y]
  | trans _ _ h1 h2 => exact h1.trans h2
theorem has_perm {m : Nat × Nat} {l k : List (Nat × Nat)} (h : l.Perm k) : hasP m l = hasP m k := by
  unfold hasP
  rw [Bool.eq_iff_iff, List.any_eq_true, List.any_eq_true]
  exact ⟨fun ⟨x, hx, e⟩ => ⟨x, h.mem_iff.1 hx, e⟩, fun ⟨x, hx, e⟩ => ⟨x, h.mem_iff.2 hx, e⟩⟩
theorem g_perm {f g : List (Nat × Nat)} (h : f.Perm g) : gP f = gP g := by
  have hl := h.length_eq
  match f, g, hl, h with
  | [], [], _, _ => rfl
  | [x], [y], _, h =>
    have : x = y := by simpa using h
    rw [this]
  | _ :: _ :: _, _ :: _ :: _, _, _ => rfl
theorem alg_perm (k : Nat) (h1 : 1 ≤ k) (h6 : k ≤ 6) (hk : k ≠ 3) {l m : List (Nat × Nat)} (h : l.Perm m) : algP k l = algP k m := by
  obtain rfl | rfl | rfl | rfl | rfl : k = 1 ∨ k = 2 ∨ k = 4 ∨ k = 5 ∨ k = 6 := by omega
  · show overP (joinsP l) = overP (joinsP m); rw [joins_perm h]
  · show swapP (overP (swapP (joinsP l))) = swapP (overP (swapP (joinsP m))); rw [joins_perm h]
  · show onlyP l = onlyP m; rw [only_g, only_g]; exact g_perm (h.filter _)
  · show unlessP l (0, 4) (4, 0) = unlessP m (0, 4) (4, 0); unfold unlessP; rw [has_perm h]
  · show unlessP l (4, 0) (0, 4) = unlessP m (4, 0) (0, 4); unfold unlessP; rw [has_perm h]
theorem joins_F (l : List (Nat × Nat)) : joinsP (F l) = joinsP l := by
  induction l with
  | nil => rfl
  | cons m l ih =>
    cases h : appliesP m with
    | false => rw [F_cons_no l h, applies_no h, joinsP_cons, zero_joinP, ih]
    | true => rw [F_cons_yes l h, joinsP_cons, joinsP_cons, ih]
theorem F_F (l : List (Nat × Nat)) : F (F l) = F l := by unfold F; rw [List.filter_filter]; congr 1; exact funext fun x => Bool.and_self _
theorem first_F (l : List (Nat × Nat)) : firstP (F l) = firstP l := by
  induction l with
  | nil => rfl
  | cons m l ih =>
    unfold firstP at *
    cases h : appliesP m with
    | false => rw [F_cons_no l h, List.find?_cons_of_neg (by rw [h]; decide), ih]
    | true => rw [F_cons_yes l h, List.find?_cons_of_pos h, List.find?_cons_of_pos h]
theorem has_F (m : Nat × Nat) (hm : appliesP m = true) (l : List (Nat × Nat)) : hasP m (F l) = hasP m l := by
  unfold hasP
  rw [Bool.eq_iff_iff, List.any_eq_true, List.any_eq_true]
  constructor
  · rintro ⟨x, hx, e⟩; exact ⟨x, (F_mem hx).1, e⟩
  · rintro ⟨x, hx, e⟩
    have : m = x := beq_iff_eq.1 e
    subst this
    exact ⟨m, List.mem_filter.2 ⟨hx, hm⟩, e⟩
theorem alg_F (k : Nat) (h1 : 1 ≤ k) (h6 : k ≤ 6) (l : List (Nat × Nat)) : algP k (F l) = algP k l := by
  obtain rfl | rfl | rfl | rfl | rfl | rfl : k = 1 ∨ k = 2 ∨ k = 3 ∨ k = 4 ∨ k = 5 ∨ k = 6 := by omega
  · show overP (joinsP (F l)) = overP (joinsP l); rw [joins_F]
  · show swapP (overP (swapP (joinsP (F l)))) = swapP (overP (swapP (joinsP l))); rw [joins_F]
  · exact first_F l
  · show onlyP (F l) = onlyP l; rw [only_g, only_g, F_F]
  · show unlessP (F l) (0, 4) (4, 0) = unlessP l (0, 4) (4, 0); unfold unlessP; rw [has_F _ rfl]
  · show unlessP (F l) (4, 0) (0, 4) = unlessP l (4, 0) (0, 4); unfold unlessP; rw [has_F _ rfl]
/-- Sure ones. -/
theorem over_table2 : ∀ a b : Fin 3, (overP (2 * a.1, 2 * b.1) == ((0, 4) : Nat × Nat)) = (2 * b.1 == 4) ∧ (swapP (overP (swapP (2 * a.1, 2 * b.1))) == ((4, 0) : Nat × Nat)) = (2 * a.1 == 4) := by decide +kernel
theorem over_deny {l : List (Nat × Nat)} (h : All6 l) : (algP 1 l == ((0, 4) : Nat × Nat)) = hasP (0, 4) l ∧ (algP 2 l == ((4, 0) : Nat × Nat)) = hasP (4, 0) l := by
  have hh := joinsP_half h
  have h2 := join_has h
  rw [← h2.1, ← h2.2]
  show (overP (joinsP l) == ((0, 4) : Nat × Nat)) = _ ∧ (swapP (overP (swapP (joinsP l))) == ((4, 0) : Nat × Nat)) = _
  clear h2
  generalize joinsP l = jj at hh ⊢
  obtain ⟨j1, j2⟩ := jj
  obtain ⟨a, rfl⟩ := half_fin hh.1
  obtain ⟨b, rfl⟩ := half_fin hh.2
  exact over_table2 a b
theorem sure_cases {m : Nat × Nat} (h : sureP m = true) : m = (0, 0) ∨ m = (4, 0) ∨ m = (0, 4) := by
  unfold sureP at h
  simpa [or_assoc] using h
theorem only_half {l : List (Nat × Nat)} : (algP 4 l == ((2, 2) : Nat × Nat)) = (!l.all sureP || decide (1 < (F l).length)) := by
  show (onlyP l == ((2, 2) : Nat × Nat)) = _
  rw [only_g, ← sure_F]
  generalize F l = f
  match f with
  | [] => rfl
  | [x] =>
    show ((bif sureP x then x else (2, 2)) == ((2, 2) : Nat × Nat)) = (!(sureP x && true) || decide (1 < 1))
    cases h : sureP x with
    | false => rfl
    | true => rcases sure_cases h with rfl | rfl | rfl <;> rfl
  | _ :: _ :: r =>
    show true = _
    rw [show decide (1 < (_ :: _ :: r : List (Nat × Nat)).length) = true from decide_eq_true (by simp), Bool.or_true]
theorem sure_want {l : List (Nat × Nat)} (h : l.all sureP = true) : algP 1 l = bif hasP (0, 4) l then (0, 4) else bif hasP (4, 0) l then (4, 0) else (0, 0) := by
  have h6 : All6 l := fun m hm => by rcases sure_cases (List.all_eq_true.1 h m hm) with rfl | rfl | rfl <;> rfl
  have hj : ((joinsP l).1 = 0 ∨ (joinsP l).1 = 4) ∧ ((joinsP l).2 = 0 ∨ (joinsP l).2 = 4) := by
    clear h6
    induction l with
    | nil => exact ⟨.inl rfl, .inl rfl⟩
    | cons m l ih =>
      rw [List.all_cons, Bool.and_eq_true] at h
      have := ih h.2
      rw [joinsP_cons]
      show (max m.1 _ = 0 ∨ max m.1 _ = 4) ∧ (max m.2 _ = 0 ∨ max m.2 _ = 4)
      rcases sure_cases h.1 with rfl | rfl | rfl <;> simp only <;> omega
  have h2 := join_has h6
  show overP (joinsP l) = _
  rw [← h2.1, ← h2.2]
  clear h2
  generalize joinsP l = jj at hj ⊢
  obtain ⟨j1, j2⟩ := jj
  simp only at hj
  rcases hj with ⟨rfl | rfl, rfl | rfl⟩ <;> rfl
end Go.Proofs.Ytlkikaeboeaadaa
