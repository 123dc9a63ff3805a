/-
  PLAIN LAWS of what many decisions make: parts, order, those that don't apply, step by step, turned. No program.
-/
import Derived.Test.YtlkikaeboeaadaaCombC
namespace Go.Proofs.Ytlkikaeboeaadaa
set_option linter.unusedVariables false

def All6 (l : List (Nat × Nat)) : Prop := ∀ m ∈ l, rightP m = true
theorem right_six {m : Nat × Nat} (h : rightP m = true) : m = (0, 0) ∨ m = (4, 0) ∨ m = (0, 4) ∨ m = (2, 0) ∨ m = (0, 2) ∨ m = (2, 2) := by
  unfold rightP at h
  by_cases h0 : m = (0, 0)
  · exact .inl h0
  rw [if_neg h0] at h
  by_cases h1 : m = (4, 0)
  · exact .inr (.inl h1)
  rw [if_neg h1] at h
  by_cases h2 : m = (0, 4)
  · exact .inr (.inr (.inl h2))
  rw [if_neg h2] at h
  by_cases h3 : m = (2, 0)
  · exact .inr (.inr (.inr (.inl h3)))
  rw [if_neg h3] at h
  by_cases h4 : m = (0, 2)
  · exact .inr (.inr (.inr (.inr (.inl h4))))
  rw [if_neg h4] at h
  by_cases h5 : m = (2, 2)
  · exact .inr (.inr (.inr (.inr (.inr h5))))
  rw [if_neg h5] at h
  exact absurd h (by decide)
def halfN (n : Nat) : Prop := n = 0 ∨ n = 2 ∨ n = 4
theorem right_half {m : Nat × Nat} (h : rightP m = true) : halfN m.1 ∧ halfN m.2 := by
  rcases right_six h with rfl | rfl | rfl | rfl | rfl | rfl <;> (unfold halfN; decide)
theorem halfN_max {i j : Nat} (hi : halfN i) (hj : halfN j) : halfN (max i j) := by unfold halfN at *; omega
theorem joinP_comm' (a b : Nat × Nat) : joinP b a = joinP a b := by unfold joinP; rw [Nat.max_comm, Nat.max_comm b.2]
theorem joinP_assoc' (a b c : Nat × Nat) : joinP (joinP a b) c = joinP a (joinP b c) := by unfold joinP; simp only [Nat.max_assoc]
theorem joinP_zero (a : Nat × Nat) : joinP a (0, 0) = a := by unfold joinP; simp only [Nat.max_zero]
theorem zero_joinP (a : Nat × Nat) : joinP (0, 0) a = a := by unfold joinP; simp only [Nat.zero_max]
theorem foldl_join (l : List (Nat × Nat)) : ∀ a, l.foldl joinP a = joinP a (joinsP l) := by
  unfold joinsP
  induction l with
  | nil => intro a; exact (joinP_zero a).symm
  | cons m l ih =>
    intro a
    rw [List.foldl_cons, List.foldl_cons, ih, ih (joinP (0, 0) m), zero_joinP, joinP_assoc']
theorem joinsP_cons (m : Nat × Nat) (l : List (Nat × Nat)) : joinsP (m :: l) = joinP m (joinsP l) := by
  show (m :: l).foldl joinP (0, 0) = _
  rw [List.foldl_cons, foldl_join, zero_joinP]
theorem joinsP_append (l m : List (Nat × Nat)) : joinsP (l ++ m) = joinP (joinsP l) (joinsP m) := by
  show (l ++ m).foldl joinP (0, 0) = _
  rw [List.foldl_append, foldl_join m]; rfl
theorem joinsP_half {l : List (Nat × Nat)} (h : All6 l) : halfN (joinsP l).1 ∧ halfN (joinsP l).2 := by
  induction l with
  | nil => exact ⟨.inl rfl, .inl rfl⟩
  | cons m l ih =>
    have h1 := ih fun x hx => h x (List.mem_cons_of_mem _ hx)
    have h2 := right_half (h m (List.mem_cons_self ..))
    rw [joinsP_cons]
    exact ⟨halfN_max h2.1 h1.1, halfN_max h2.2 h1.2⟩
theorem over_table : ∀ a b c d : Fin 3, overP (joinP (overP (2 * a.1, 2 * b.1)) (overP (2 * c.1, 2 * d.1))) = overP (joinP (2 * a.1, 2 * b.1) (2 * c.1, 2 * d.1)) := by decide +kernel
theorem half_fin {n : Nat} (h : halfN n) : ∃ a : Fin 3, n = 2 * a.1 := by
  rcases h with rfl | rfl | rfl
  · exact ⟨0, rfl⟩
  · exact ⟨1, rfl⟩
  · exact ⟨2, rfl⟩
theorem over_join {j k : Nat × Nat} (h1 : halfN j.1) (h2 : halfN j.2) (h3 : halfN k.1) (h4 : halfN k.2) : overP (joinP (overP j) (overP k)) = overP (joinP j k) := by
  obtain ⟨j1, j2⟩ := j
  obtain ⟨k1, k2⟩ := k
  obtain ⟨a, rfl⟩ := half_fin h1
  obtain ⟨b, rfl⟩ := half_fin h2
  obtain ⟨c, rfl⟩ := half_fin h3
  obtain ⟨d, rfl⟩ := half_fin h4
  exact over_table a b c d
theorem over_right (j : Nat × Nat) : rightP (overP j) = true := by
  unfold overP
  split
  · rfl
  split
  · rfl
  split
  · rfl
  split
  · rfl
  split <;> rfl
theorem swap_right {j : Nat × Nat} (h : rightP j = true) : rightP (swapP j) = true := by
  rcases right_six h with rfl | rfl | rfl | rfl | rfl | rfl <;> rfl

/-- Those that apply. -/
def F (l : List (Nat × Nat)) : List (Nat × Nat) := l.filter appliesP
theorem F_mem {l : List (Nat × Nat)} {m : Nat × Nat} (h : m ∈ F l) : m ∈ l ∧ appliesP m = true := List.mem_filter.1 h
theorem F_append (l m : List (Nat × Nat)) : F (l ++ m) = F l ++ F m := List.filter_append ..
theorem F_cons_yes {m : Nat × Nat} (l : List (Nat × Nat)) (h : appliesP m = true) : F (m :: l) = m :: F l := List.filter_cons_of_pos h
theorem F_cons_no {m : Nat × Nat} (l : List (Nat × Nat)) (h : appliesP m = false) : F (m :: l) = F l := List.filter_cons_of_neg (by rw [h]; decide)
theorem applies_no {m : Nat × Nat} (h : appliesP m = false) : m = (0, 0) := by
  unfold appliesP at h; exact beq_iff_eq.1 (by simpa using h)
theorem applies_ne {m : Nat × Nat} (h : appliesP m = true) : (m == (0, 0)) = false := by
  unfold appliesP at h; simpa using h
def gP : List (Nat × Nat) → Nat × Nat
  | [] => (0, 0)
  | [x] => bif sureP x then x else (2, 2)
  | _ :: _ :: _ => (2, 2)
theorem step4_zero (j : Nat × Nat) : stepP 4 j (0, 0) = j := by
  show (bif j == (0, 0) then (0, 0) else bif ((0, 0) : Nat × Nat) == (0, 0) then j else (2, 2)) = j
  by_cases h : j = (0, 0)
  · rw [h]; rfl
  · rw [beq_eq_false_iff_ne.2 h]; rfl
theorem step4_two {j m : Nat × Nat} (hj : appliesP j = true) (hm : appliesP m = true) : stepP 4 j m = (2, 2) := by
  show (bif j == (0, 0) then m else bif m == (0, 0) then j else (2, 2)) = (2, 2)
  rw [applies_ne hj, applies_ne hm]; rfl
theorem step4_first (m : Nat × Nat) : stepP 4 (0, 0) m = m := rfl
theorem fold4_F (l : List (Nat × Nat)) : ∀ j, l.foldl (stepP 4) j = (F l).foldl (stepP 4) j := by
  induction l with
  | nil => intro j; rfl
  | cons m l ih =>
    intro j
    cases h : appliesP m with
    | false => rw [F_cons_no l h, applies_no h, List.foldl_cons, step4_zero, ih]
    | true => rw [F_cons_yes l h, List.foldl_cons, List.foldl_cons, ih]
theorem fold4_two : ∀ (l : List (Nat × Nat)), (∀ m ∈ l, appliesP m = true) → l.foldl (stepP 4) (2, 2) = (2, 2)
  | [], _ => rfl
  | m :: l, h => by
    rw [List.foldl_cons, step4_two rfl (h m (List.mem_cons_self ..))]
    exact fold4_two l fun x hx => h x (List.mem_cons_of_mem _ hx)
theorem sure_F (l : List (Nat × Nat)) : (F l).all sureP = l.all sureP := by
  induction l with
  | nil => rfl
  | cons m l ih =>
    cases h : appliesP m with
    | false => rw [F_cons_no l h, applies_no h, List.all_cons, ih]; rfl
    | true => rw [F_cons_yes l h, List.all_cons, List.all_cons, ih]
theorem only_g (l : List (Nat × Nat)) : onlyP l = gP (F l) := by
  unfold onlyP
  rw [← sure_F, fold4_F]
  have hF : ∀ m ∈ F l, appliesP m = true := fun m hm => (F_mem hm).2
  generalize F l = f at hF ⊢
  match f, hF with
  | [], _ => rfl
  | [x], _ =>
    show (bif ([x] : List (Nat × Nat)).all sureP then stepP 4 (0, 0) x else (2, 2)) = gP [x]
    rw [step4_first]
    show (bif (sureP x && true) then x else (2, 2)) = (bif sureP x then x else (2, 2))
    rw [Bool.and_true]
  | x :: y :: r, hF =>
    show (bif (x :: y :: r).all sureP then (x :: y :: r).foldl (stepP 4) (0, 0) else (2, 2)) = (2, 2)
    rw [List.foldl_cons, List.foldl_cons, step4_first, step4_two (hF x (List.mem_cons_self ..)) (hF y (List.mem_cons_of_mem _ (List.mem_cons_self ..))), fold4_two r fun z hz => hF z (List.mem_cons_of_mem _ (List.mem_cons_of_mem _ hz))]
    cases (x :: y :: r).all sureP <;> rfl
theorem gP_applies {f : List (Nat × Nat)} (hne : f ≠ []) (h : ∀ m ∈ f, appliesP m = true) : appliesP (gP f) = true := by
  match f, hne, h with
  | [x], _, h =>
    show appliesP (bif sureP x then x else (2, 2)) = true
    cases sureP x
    · rfl
    · exact h x (List.mem_cons_self ..)
  | _ :: _ :: _, _, _ => rfl
theorem gP_self {f : List (Nat × Nat)} (hne : f ≠ []) (h : ∀ m ∈ f, appliesP m = true) : gP [gP f] = gP f := by
  match f, hne, h with
  | [x], _, h =>
    show (bif sureP (bif sureP x then x else (2, 2)) then (bif sureP x then x else (2, 2)) else (2, 2)) = (bif sureP x then x else (2, 2))
    cases hs : sureP x
    · rfl
    · show (bif sureP x then x else (2, 2)) = x
      rw [hs]; rfl
  | _ :: _ :: _, _, _ => rfl
theorem gP_two {f g : List (Nat × Nat)} (hf : f ≠ []) (hg : g ≠ []) : gP (f ++ g) = (2, 2) := by
  match f, g, hf, hg with
  | [_], _ :: _, _, _ => rfl
  | _ :: _ :: _, _, _, _ => rfl
theorem g_nested {f g : List (Nat × Nat)} (hf : ∀ m ∈ f, appliesP m = true) (hg : ∀ m ∈ g, appliesP m = true) : gP (F [gP f, gP g]) = gP (f ++ g) := by
  by_cases h1 : f = []
  · subst h1
    rw [F_cons_no _ (show appliesP (gP []) = false from rfl), List.nil_append]
    by_cases h2 : g = []
    · subst h2; rfl
    · rw [F_cons_yes _ (gP_applies h2 hg)]; exact gP_self h2 hg
  · rw [F_cons_yes _ (gP_applies h1 hf)]
    by_cases h2 : g = []
    · subst h2
      rw [F_cons_no _ (show appliesP (gP []) = false from rfl), List.append_nil]
      exact gP_self h1 hf
    · rw [F_cons_yes _ (gP_applies h2 hg), gP_two h1 h2]; rfl
theorem hasP_append (m : Nat × Nat) (l k : List (Nat × Nat)) : hasP m (l ++ k) = (hasP m l || hasP m k) := List.any_append
theorem unless_nested (m o : Nat × Nat) (hne : (o == m) = false) (l k : List (Nat × Nat)) : unlessP [unlessP l m o, unlessP k m o] m o = unlessP (l ++ k) m o := by
  have ho : (o == o) = true := beq_self_eq_true o
  unfold unlessP
  rw [hasP_append]
  unfold hasP
  cases l.any (o == ·) <;> cases k.any (o == ·)
  · show (bif ((o == m) || ((o == m) || false)) then o else m) = m
    rw [hne]; rfl
  · show (bif ((o == m) || ((o == o) || false)) then o else m) = o
    rw [ho, Bool.or_comm]; rfl
  · show (bif ((o == o) || ((o == m) || false)) then o else m) = o
    rw [ho]; rfl
  · show (bif ((o == o) || ((o == o) || false)) then o else m) = o
    rw [ho]; rfl
theorem first_append (l k : List (Nat × Nat)) : firstP [firstP l, firstP k] = firstP (l ++ k) := by
  unfold firstP
  rw [List.find?_append]
  cases h : l.find? appliesP with
  | none =>
    show (List.find? appliesP [(0, 0), (k.find? appliesP).getD (0, 0)]).getD (0, 0) = (k.find? appliesP).getD (0, 0)
    rw [List.find?_cons_of_neg (by decide)]
    cases h2 : k.find? appliesP with
    | none => rfl
    | some y => 
      have := List.find?_some h2
      rw [Option.getD_some, List.find?_cons_of_pos this]; rfl
  | some x =>
    have := List.find?_some h
    rw [Option.getD_some, List.find?_cons_of_pos this]; rfl
theorem alg_nested (k : Nat) (h1 : 1 ≤ k) (h6 : k ≤ 6) {l m : List (Nat × Nat)} (hl : All6 l) (hm : All6 m) : algP k [algP k l, algP k m] = algP k (l ++ m) := by
  have a := joinsP_half hl
  have b := joinsP_half hm
  obtain rfl | rfl | rfl | rfl | rfl | rfl : k = 1 ∨ k = 2 ∨ k = 3 ∨ k = 4 ∨ k = 5 ∨ k = 6 := by omega
  · show overP (joinsP [overP (joinsP l), overP (joinsP m)]) = overP (joinsP (l ++ m))
    rw [joinsP_append, joinsP_cons, joinsP_cons, show joinsP [] = (0, 0) from rfl, joinP_zero]
    exact over_join a.1 a.2 b.1 b.2
  · show swapP (overP (swapP (joinsP [swapP (overP (swapP (joinsP l))), swapP (overP (swapP (joinsP m)))]))) = swapP (overP (swapP (joinsP (l ++ m))))
    rw [joinsP_append, joinsP_cons, joinsP_cons, show joinsP [] = (0, 0) from rfl, joinP_zero]
    show swapP (overP (joinP (overP (swapP (joinsP l))) (overP (swapP (joinsP m))))) = swapP (overP (joinP (swapP (joinsP l)) (swapP (joinsP m))))
    rw [over_join (j := swapP (joinsP l)) (k := swapP (joinsP m)) a.2 a.1 b.2 b.1]
  · exact first_append l m
  · show onlyP [onlyP l, onlyP m] = onlyP (l ++ m)
    rw [only_g, only_g l, only_g m, only_g (l ++ m), F_append]
    exact g_nested (fun x hx => (F_mem hx).2) (fun x hx => (F_mem hx).2)
  · exact unless_nested (0, 4) (4, 0) (by decide) l m
  · exact unless_nested (4, 0) (0, 4) (by decide) l m
theorem first_right {l : List (Nat × Nat)} (hl : All6 l) : rightP (firstP l) = true := by
  unfold firstP
  cases hf : l.find? appliesP with
  | none => rfl
  | some x => exact hl x (List.mem_of_find?_eq_some hf)
theorem alg_right (k : Nat) {l : List (Nat × Nat)} (hl : All6 l) : rightP (algP k l) = true := by
  unfold algP
  split
  · exact over_right _
  · exact swap_right (over_right _)
  · exact first_right hl
  · rw [only_g]
    have hF : ∀ m ∈ F l, rightP m = true := fun m hm => hl m (F_mem hm).1
    generalize F l = f at hF ⊢
    match f, hF with
    | [], _ => rfl
    | [x], h =>
      show rightP (bif sureP x then x else (2, 2)) = true
      cases sureP x
      · rfl
      · exact h x (List.mem_cons_self ..)
    | _ :: _ :: _, _ => rfl
  · unfold unlessP; cases hasP (4, 0) l <;> rfl
  · unfold unlessP; cases hasP (0, 4) l <;> rfl
end Go.Proofs.Ytlkikaeboeaadaa
